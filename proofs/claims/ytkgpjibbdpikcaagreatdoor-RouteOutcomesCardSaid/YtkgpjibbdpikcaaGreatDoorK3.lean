/- No condition. -/
import Derived.Test.YtkgpjibbdpikcaaGreatDoorK2
set_option linter.unusedVariables false
set_option linter.unusedSimpArgs false
set_option maxRecDepth 100000
namespace Groat
open Go.IntKind renaming wrap→zW,i64→zI,u8→zU
open Go Go.Ref
theorem div2(j:Nat):Int.tdiv (j:Int) (2:Int)=((j/2:Nat):Int):=rfl
theorem z1h6(b:ByteArray)(hb:b.size≤1099511627776)(m:Nat)(hm:m≤b.size)(hm2:m≤500)(K:Nat)(t:ByteArray)(ht:t.size≤1000){j:Nat}(hj:j<m)(x:Fin 256)(hx:ze b j=(x.1:Int)):
 z2y (K+1) b (m:Int) t ((2*j:Nat):Int)=(if 9<x.1/16 then some (.inl (bs [],(3:Int),(j:Int),t)) else z2y K b (m:Int) (t++strOf [48+((x.1/16:Nat):Int)]) ((2*j+1:Nat):Int)):=by
 have hx2:=x.2
 have e1:zW zI ((2:Int)*(m:Int))=((2*m:Nat):Int):=by rw[zi (by omega) (by omega)];omega
 have e2:zW zI (((2*j)/2:Nat):Int)=(j:Int):=by rw[zi (by omega) (by omega)];omega
 conv=>lhs;unfold z2y z9x
 simp only[e1,div2,e2,z3j,Int.toNat_natCast,hx,(z35 x).2.2.1,(z35 x).2.2.2]
 have hw:∀{R:Type} (z:Option R),zd (j:Int) b.size z=z:=fun z=>zh (by omega)
 simp only[hw]
 rw[zT (by omega),zC,zF (by omega:¬((2*j:Nat):Int)=1),zD,zF (by omega:¬(((2*j)% 2:Nat):Int)=1),zD]
 by_cases h:9<x.1/16
 ·rw[if_pos h,zT (by omega)];rfl
 ·rw[if_neg h,zF (by omega),zD,nib8 (by omega),zT (by rw[z1d];simp only[List.length_singleton];omega),zC,zo (by omega)]
theorem z1n3(b:ByteArray)(hb:b.size≤1099511627776)(m:Nat)(hm:m≤b.size)(hm2:m≤500)(K:Nat)(t:ByteArray)(ht:t.size≤1000){j:Nat}(hj:j<m)(x:Fin 256)(hx:ze b j=(x.1:Int))(hne:¬(j=0∧t=bs [])):
 z2y (K+1) b (m:Int) t ((2*j+1:Nat):Int)=(if 9<x.1 % 16 then some (.inl (bs [],(3:Int),(j:Int),t)) else z2y K b (m:Int) (t++strOf [48+((x.1 % 16:Nat):Int)]) ((2*(j+1):Nat):Int)):=by
 have hx2:=x.2
 have e1:zW zI ((2:Int)*(m:Int))=((2*m:Nat):Int):=by rw[zi (by omega) (by omega)];omega
 have e2:zW zI (((2*j+1)/2:Nat):Int)=(j:Int):=by rw[zi (by omega) (by omega)];omega
 have e3:zW zI (((2*j+1:Nat):Int)+1)=((2*(j+1):Nat):Int):=by rw[zi (by omega) (by omega)];omega
 conv=>lhs;unfold z2y z9x
 simp only[e1,div2,e2,e3,z3j,Int.toNat_natCast,hx,(z35 x).2.2.1,(z35 x).2.2.2]
 have hw:∀{R:Type} (z:Option R),zd (j:Int) b.size z=z:=fun z=>zh (by omega)
 simp only[hw]
 rw[zT (by omega),zC]
 have hodd:decide ((((2*j+1)% 2:Nat):Int)=1)=true:=zT (by omega)
 by_cases hj0:j=0
 ·have htn:¬t=bs []:=fun e=>hne ⟨hj0,e⟩
  rw[zT (by omega:((2*j+1:Nat):Int)=1),zC,zF htn,zD,hodd,zC]
  by_cases h:9<x.1 % 16
  ·rw[if_pos h,zT (by omega)];rfl
  ·rw[if_neg h,zF (by omega),zD,nib8 (by omega),zT (by rw[z1d];simp only[List.length_singleton];omega),zC]
 ·rw[zF (by omega:¬((2*j+1:Nat):Int)=1),zD,hodd,zC]
  by_cases h:9<x.1 % 16
  ·rw[if_pos h,zT (by omega)];rfl
  ·rw[if_neg h,zF (by omega),zD,nib8 (by omega),zT (by rw[z1d];simp only[List.length_singleton];omega),zC]
theorem z1do(b:ByteArray)(hb:b.size≤1099511627776)(m:Nat)(hm:m≤b.size)(hm2:m≤500)(K:Nat)(h0:0<m)(x:Fin 256)(hx:ze b 0=(x.1:Int)):
 z2y (K+1) b (m:Int) (bs []) (1:Int)=(if x.1/16≠0 then some (.inl (bs [],(4:Int),(0:Int),bs [])) else if 9<x.1 % 16 then some (.inl (bs [],(3:Int),(0:Int),bs [])) else z2y K b (m:Int) (bs []++strOf [48+((x.1 % 16:Nat):Int)]) (2:Int)):=by
 have hx2:=x.2
 have e1:zW zI ((2:Int)*(m:Int))=((2*m:Nat):Int):=by rw[zi (by omega) (by omega)];omega
 have e2:zW zI (Int.tdiv (1:Int) 2)=0:=by decide
 have e3:zW zI ((1:Int)+1)=2:=by decide
 have e4:Int.tmod (1:Int) 2=1:=by decide
 conv=>lhs;unfold z2y z9x
 simp only[e1,e2,e3,e4,show((0:Int)).toNat=0 from rfl,hx,(z35 x).2.2.1,(z35 x).2.2.2]
 have hw:∀{R:Type} (z:Option R),zd (0:Int) b.size z=z:=fun z=>zl (by omega) (by omega)
 simp only[hw]
 rw[zT (by omega),zC]
 simp only[decide_true,zC]
 by_cases hz:x.1/16=0
 ·rw[if_neg (fun h=>h hz),zT (by omega),Bool.not_true,zD]
  by_cases h:9<x.1 % 16
  ·rw[if_pos h,zT (by omega)];rfl
  ·rw[if_neg h,zF (by omega),zD,nib8 (by omega),zT (by rw[z1d];simp only[List.length_singleton];show 0+1≤_;omega),zC]
 ·rw[if_pos hz,zF (by omega)];rfl
theorem z1oi(t:ByteArray)(a b:Int):t++strOf [a]++strOf [b]=t++strOf [a,b]:=by
 rw[ByteArray.append_assoc,←z6k];rfl
theorem zt8:∀(l:List Int) (i:Nat) (o1 o2:Bool),0<i→bcdE o1 l i=bcdE o2 l i
 | [],i,o1,o2,_=>rfl
 |y::r,i,o1,o2,hi=>by
  have e:∀o,bcdE o (y::r) i=if 9<y/16∨9<y % 16 then some (3,(i:Int)) else bcdE o r (i+1):=fun o=>by rw[bcdE,if_neg (fun h=>absurd h.1 (by omega))]
  rw[e,e,zt8 r (i+1) o1 o2 (by omega)]
theorem zel(b:ByteArray)(hb:b.size≤1099511627776)(m:Nat)(hm:m≤b.size)(hm2:m≤500)(odd:Bool):∀(n j K:Nat) (t:ByteArray),j+n=m→2*n<K→t.size+2*n≤1000→((odd=true∨t≠bs [])→0<j)→∃o',z2y K b (m:Int) t ((2*j:Nat):Int)=some (match bcdE (odd&&decide (0<j)) (((bl b).take m).drop j) j with
 |some e=> .inl (bs [],e.1,e.2,o')
 |none=> .inr (t++strOf (bcdN (((bl b).take m).drop j))))
 |n,j,0,t,_,hk,_,_=>by omega
 |0,j,K+1,t,hj,hk,ht,h0=>by
  have e1:zW zI ((2:Int)*(m:Int))=((2*m:Nat):Int):=by rw[zi (by omega) (by omega)];omega
  unfold z2y z9x
  rw[e1,zF (by omega),zD,List.drop_eq_nil_of_le (by rw[List.length_take,zg];omega)]
  exact⟨t,by simp only[bcdE,bcdN];congr 2;apply z5f;rw[z29];simp [bl,strOf]⟩
 |n+1,j,1,t,hj,hk,ht,h0=>by omega
 |n+1,j,K+2,t,hj,hk,ht,h0=>by
  have hlt:j<b.size:=by omega
  have hl:j<(bl b).length:=by rw[zg];exact hlt
  have hl2:j<((bl b).take m).length:=by rw[List.length_take];omega
  obtain⟨x,hx,_,_⟩:=nib (z1a (List.getElem_mem hl))
  have hx2:=x.2
  have hbx:ze b j=(x.1:Int):=by rw[z2x hl,hx]
  have hdr:((bl b).take m).drop j=(x.1:Int)::((bl b).take m).drop (j+1):=by rw[List.drop_eq_getElem_cons hl2,List.getElem_take,hx]
  have e16:(x.1:Int)/16=((x.1/16:Nat):Int):=by omega
  have e17:(x.1:Int)% 16=((x.1 % 16:Nat):Int):=by omega
  rw[z1h6 b hb m hm hm2 (K+1) t (by omega) (by omega) x hbx,hdr,bcdE,bcdN,e16,e17]
  have hfirst:¬(j=0∧(odd&&decide (0<j))=true∧((x.1/16:Nat):Int)≠0):=by
   rintro⟨h1,h2,_⟩
   rw[h1] at h2
   simp at h2
  rw[if_neg hfirst]
  by_cases h:9<x.1/16
  ·rw[if_pos h,if_pos (.inl (by omega))]
   exact⟨t,rfl⟩
  ·rw[if_neg h,z1n3 b hb m hm hm2 K _ (by rw[ByteArray.size_append,z1d];simp only[List.length_singleton];omega) (by omega) x hbx (fun e=>by
    have:=congrArg ByteArray.size e.2
    rw[ByteArray.size_append,z1d] at this
    simp only[List.length_singleton] at this
    have h0:(bs []).size=0:=rfl
    omega)]
   by_cases h2:9<x.1 % 16
   ·rw[if_pos h2,if_pos (.inr (by omega))]
    exact⟨_,rfl⟩
   ·rw[if_neg h2,if_neg (by omega),z1oi]
    obtain⟨o',ih⟩:=zel b hb m hm hm2 odd n (j+1) K (t++strOf [48+((x.1/16:Nat):Int),48+((x.1 % 16:Nat):Int)]) (by omega) (by omega) (by rw[ByteArray.size_append,z1d];simp only[List.length_cons,List.length_nil];omega) (fun _=>by omega)
    refine⟨o',ih.trans ?_⟩
    have hE:bcdE (odd&&decide (0<j+1)) (((bl b).take m).drop (j+1)) (j+1)=bcdE (odd&&decide (0<j)) (((bl b).take m).drop (j+1)) (j+1):=by
     exact zt8 _ _ _ _ (by omega)
    rw[hE,ByteArray.append_assoc,←z6k]
    rfl
theorem zrr(b:ByteArray)(n:Int)(hb:b.size≤1099511627776):Q77 b n=some (z1l b n):=by
 unfold Q77 zx0 z1l
 by_cases h0:n<0
 ·rw[zT h0,if_pos (.inl h0)];rfl
 ·rw[zF h0,zD]
  by_cases h1:999<n
  ·rw[zT h1,if_pos (.inr h1)];rfl
  ·rw[zF h1,zD,if_neg (fun h=>h.elim h0 h1)]
   obtain⟨nn,rfl⟩:∃nn:Nat,n=nn:=⟨n.toNat,by omega⟩
   have ew:zW zI ((nn:Int)+1)=((nn+1:Nat):Int):=by rw[zi (by omega) (by omega)];omega
   have ew2:zW zI (((nn+1)/2:Nat):Int)=(((nn+1)/2:Nat):Int):=zi (by omega) (by omega)
   have em:((nn:Int)+1)/2=(((nn+1)/2:Nat):Int):=by omega
   have ep:((nn:Int)% 2).toNat=nn % 2:=by omega
   have eo:decide ((nn:Int)% 2=1)=decide (nn % 2=1):=decide_eq_decide.2 (by omega)
   rw[ew,div2,ew2,em,Int.toNat_natCast,eo,ep]
   generalize hmm:(nn+1)/2=m
   by_cases h2:(b.size:Int)<(m:Int)
   ·rw[zT h2,if_pos h2];rfl
   ·rw[zF h2,zD,if_neg h2]
    have e2m:zW zI ((2:Int)*(m:Int))=((2*m:Nat):Int):=by rw[zi (by omega) (by omega)];omega
    rw[e2m]
    dsimp only
    by_cases hp:nn % 2=1
    ·have es:zW zI (((2*m:Nat):Int)-(nn:Int))=1:=by rw[zi (by omega) (by omega)];omega
     rw[es,zT hp]
     have hl:0<(bl b).length:=by rw[zg];omega
     have hl2:0<((bl b).take m).length:=by rw[List.length_take];omega
     obtain⟨x,hx,_,_⟩:=nib (z1a (List.getElem_mem hl))
     have hx2:=x.2
     have hbx:ze b 0=(x.1:Int):=by rw[z2x hl,hx]
     have hdr:(bl b).take m=(x.1:Int)::((bl b).take m).drop 1:=by
      have:=List.drop_eq_getElem_cons hl2
      rw[List.drop_zero,List.getElem_take,hx] at this
      exact this
     have e16:(x.1:Int)/16=((x.1/16:Nat):Int):=by omega
     have e17:(x.1:Int)% 16=((x.1 % 16:Nat):Int):=by omega
     obtain⟨K,hK⟩:∃K,FUEL=K+1:=⟨FUEL-1,by rw[zn]⟩
     rw[hK,z1do b hb m (by omega) (by omega) K (by omega) x hbx,hdr,bcdE,bcdN,e16,e17]
     by_cases hz:x.1/16=0
     ·have hz1:¬((0:Nat)=0∧true=true∧((x.1/16:Nat):Int)≠0):=by simp;omega
      rw[if_neg (fun h=>h hz),if_neg hz1]
      by_cases h9:9<x.1 % 16
      ·rw[if_pos h9,if_pos (.inr (by omega))];rfl
      ·rw[if_neg h9,if_neg (by omega)]
       have hz0:(bs []++strOf [48+((x.1 % 16:Nat):Int)]).size=1:=by rw[ByteArray.size_append,z1d];rfl
       obtain⟨o',ih⟩:=zel b hb m (by omega) (by omega) true (m-1) 1 K (bs []++strOf [48+((x.1 % 16:Nat):Int)]) (by omega) (by rw[zn] at hK;omega) (by rw[hz0];omega) (fun _=>by omega)
       rw[show((2*1:Nat):Int)=2 from rfl] at ih
       rw[ih,zc,zt8 _ 1 (true&&decide (0<1)) true (by omega)]
       cases bcdE true (((bl b).take m).drop 1) 1 with
       |some e=>rfl
       |none=>
        dsimp only
        rw[Sum.elim_inr]
        unfold zih
        rw[hp]
        congr 2
     ·rw[if_pos hz,if_pos ⟨rfl,rfl,by omega⟩];rfl
    ·have es:zW zI (((2*m:Nat):Int)-(nn:Int))=((2*0:Nat):Int):=by rw[zi (by omega) (by omega)];omega
     rw[es,zF hp]
     obtain⟨o',ih⟩:=zel b hb m (by omega) (by omega) false m 0 FUEL (bs []) (by omega) (by rw[zn];omega) (by show 0+_≤_;omega) (fun h=>by rcases h with h|h;cases h;exact absurd rfl h)
     rw[ih,zc,List.drop_zero,show(false&&decide (0<0))=false from rfl]
     cases bcdE false ((bl b).take m) 0 with
     |some e=>rfl
     |none=>
      dsimp only
      rw[Sum.elim_inr]
      unfold zih
      rw[show nn % 2=0 by omega,List.drop_zero]
      congr 2
end Groat

namespace Groat
open Go.IntKind renaming wrap→zW,i64→zI,u8→zU
open Go Go.Ref
theorem z2a{a:Int}{l:List Int}:allD (a::l)=true↔isDig a=true∧allD l=true:=by
 rw[ziw,Bool.and_eq_true]
theorem z23{a:Int}:isDig a=true↔48≤a∧a≤57:=by
 unfold isDig
 rw[decide_eq_true_eq]
theorem zta:∀l:List Int,(bcdP l).length=l.length/2
 | []=>rfl
 | [a]=>by simp [bcdP]
 |a::b::r=>by rw[bcdP,List.length_cons,zta r,List.length_cons,List.length_cons];omega
theorem zt9:∀l:List Int,(bcdN l).length=2*l.length
 | []=>rfl
 |x::r=>by rw[bcdN,List.length_cons,List.length_cons,zt9 r,List.length_cons];omega
theorem z15k:∀{l:List Int},allD l=true→∀y∈bcdP l,zq y
 | [],_,y,hy=>by simp [bcdP] at hy
 | [a],_,y,hy=>by simp [bcdP] at hy
 |a::b::r,h,y,hy=>by
  obtain⟨h1,h2⟩:=z2a.1 h
  obtain⟨h2,h3⟩:=z2a.1 h2
  rw[z23] at h1 h2
  rw[bcdP] at hy
  rcases List.mem_cons.1 hy with rfl|hy
  ·unfold zq;omega
  ·exact z15k h3 y hy
theorem bcdNP:∀{l:List Int},l.length % 2=0→allD l=true→bcdN (bcdP l)=l
 | [],_,_=>by simp [bcdP,bcdN]
 | [a],h,_=>by simp at h
 |a::b::r,h,hd=>by
  obtain⟨h1,h2⟩:=z2a.1 hd
  obtain⟨h2,h3⟩:=z2a.1 h2
  rw[z23] at h1 h2
  rw[bcdP,bcdN,bcdNP (by simp only[List.length_cons] at h;omega) h3,show 48+(16*(a-48)+(b-48))/16=a by omega,show 48+(16*(a-48)+(b-48))% 16=b by omega]
theorem bcdEP(odd:Bool):∀{l:List Int} {i:Nat},l.length % 2=0→allD l=true→(i=0→odd=true→l.getD 0 48=48)→bcdE odd (bcdP l) i=none
 | [],_,_,_,_=>by simp [bcdP,bcdE]
 | [a],_,h,_,_=>by simp at h
 |a::b::r,i,h,hd,ho=>by
  obtain⟨h1,h2⟩:=z2a.1 hd
  obtain⟨h2,h3⟩:=z2a.1 h2
  rw[z23] at h1 h2
  rw[bcdP,bcdE,if_neg,if_neg (by omega)]
  ·exact bcdEP odd (by simp only[List.length_cons] at h;omega) h3 fun hi=>by omega
  ·rintro⟨e1,e2,e3⟩
   have:a=48:=ho e1 e2
   omega
def bcdX(s:ByteArray):List Int:=if s.size % 2=1 then 48::bl s else bl s
theorem z15l(s:ByteArray):(bcdX s).length % 2=0:=by
 unfold bcdX
 split
 ·rw[List.length_cons,zg];omega
 ·rw[zg];omega
theorem z1ao(s:ByteArray):(bcdX s).length/2=(s.size+1)/2:=by
 unfold bcdX
 split
 ·rw[List.length_cons,zg]
 ·rw[zg];omega
theorem ztb{s:ByteArray}(h:allD (bl s)=true):allD (bcdX s)=true:=by
 unfold bcdX
 split
 ·exact z2a.2 ⟨rfl,h⟩
 ·exact h
theorem zj1{s:ByteArray}(h:s.size≤999)(hd:allD (bl s)=true):z2m s=(strOf (bcdP (bcdX s)),true):=by
 unfold z2m bcdX
 rw[zT ⟨h,hd⟩,zC]
theorem zb4{s:ByteArray}(h:s.size≤999)(hd:allD (bl s)=true):(z2m s).1.size=(s.size+1)/2:=by
 rw[zj1 h hd]
 show(strOf _).size=_
 rw[z1d,zta,z1ao]
theorem z1tc{s:ByteArray}(h:s.size≤999)(hd:allD (bl s)=true):z1l (z2m s).1 (s.size:Int)=(s,0,0):=by
 have hsz:=zb4 h hd
 have hb:bl (z2m s).1=bcdP (bcdX s):=by rw[zj1 h hd];exact z2j (z15k (ztb hd))
 unfold z1l
 rw[if_neg (by omega),if_neg (by rw[hsz];omega),hb,List.take_of_length_le (by rw[zta,z1ao];omega),bcdEP _ (z15l s) (ztb hd),bcdNP (z15l s) (ztb hd)]
 ·dsimp only
  by_cases hp:s.size % 2=1
  ·rw[show((s.size:Int)% 2).toNat=1 by omega]
   unfold bcdX
   rw[if_pos hp,List.drop_succ_cons,List.drop_zero,z43]
  ·rw[show((s.size:Int)% 2).toNat=0 by omega]
   unfold bcdX
   rw[if_neg hp,List.drop_zero,z43]
 ·intro _ ho
  have ho:=of_decide_eq_true ho
  unfold bcdX
  rw[if_pos (by omega)];rfl
theorem z15j{odd:Bool}:∀{l:List Int} {i:Nat},bcdE odd l i=none→(∀x∈l,x/16≤9∧x % 16≤9)∧(i=0→odd=true→l.getD 0 0/16=0)
 | [],i,_=>⟨fun x hx=>(by cases hx),fun _ _=>rfl⟩
 |a::r,i,h=>by
  rw[bcdE] at h
  by_cases h1:i=0∧odd=true∧a/16≠0
  ·rw[if_pos h1] at h;cases h
  ·rw[if_neg h1] at h
   by_cases h2:9<a/16∨9<a % 16
   ·rw[if_pos h2] at h;cases h
   ·rw[if_neg h2] at h
    refine⟨fun x hx=> ?_,fun hi ho=> ?_⟩
    ·rcases List.mem_cons.1 hx with rfl|hx
     ·omega
     ·exact(z15j h).1 x hx
    ·show a/16=0
     by_cases h3:a/16=0
     ·exact h3
     ·exact absurd ⟨hi,ho,h3⟩ h1
theorem bcdPN:∀{l:List Int},(∀x∈l,zq x)→bcdP (bcdN l)=l
 | [],_=>by simp [bcdN,bcdP]
 |x::r,h=>by
  have hx:=h x List.mem_cons_self
  unfold zq at hx
  rw[bcdN,bcdP,bcdPN fun y hy=>h y (List.mem_cons_of_mem _ hy),show 16*(48+x/16-48)+(48+x % 16-48)=x by omega]
theorem z1an:∀{l:List Int},(∀x∈l,zq x)→(∀x∈l,x/16≤9∧x % 16≤9)→allD (bcdN l)=true
 | [],_,_=>rfl
 |x::r,h,h9=>by
  have hx:=h x List.mem_cons_self
  have hy:=h9 x List.mem_cons_self
  unfold zq at hx
  rw[bcdN]
  exact z2a.2 ⟨z23.2 (by omega),z2a.2 ⟨z23.2 (by omega),z1an (fun y hy=>h y (List.mem_cons_of_mem _ hy)) fun y hy=>h9 y (List.mem_cons_of_mem _ hy)⟩⟩
theorem z160{l:List Int}(h:allD l=true):∀x∈l,zq x:=fun x hx=>by
 have:=z23.1 (List.all_eq_true.1 h x hx)
 unfold zq;omega
theorem z15m{b t:ByteArray}{n i:Int}(h:z1l b n=(t,0,i))(hb:(b.size:Int)=(n+1)/2):z2m t=(b,true)∧(t.size:Int)=n∧allD (bl t)=true:=by
 unfold z1l at h
 by_cases h0:n<0∨999<n
 ·rw[if_pos h0] at h;cases h
 ·rw[if_neg h0,if_neg (by omega),←hb,Int.toNat_natCast,List.take_of_length_le (by rw[zg];exact Nat.le_refl _)] at h
  cases he:bcdE (decide (n % 2=1)) (bl b) 0 with
  |some e=>
   rw[he] at h
   dsimp only at h
   injection h with _ h
   injection h with h _
   exfalso
   have key:∀{l:List Int} {i:Nat} {odd:Bool} {e:Int×Int},bcdE odd l i=some e→e.1≠0:=by
    intro l
    induction l with
    |nil=>intro i odd e h;cases h
    |cons a r ih=>
     intro i odd e h
     rw[bcdE] at h
     split at h
     ·cases h;decide
     ·split at h
      ·cases h;simp
      ·exact ih h
   exact key he h
  |none=>
   rw[he] at h
   dsimp only at h
   obtain⟨g1,g2⟩:=z15j he
   have hby:∀x∈bl b,zq x:=fun x hx=>z1a hx
   have hall:=z1an hby g1
   have ht:t=strOf ((bcdN (bl b)).drop (n % 2).toNat):=(congrArg Prod.fst h).symm
   have hdall:allD ((bcdN (bl b)).drop (n % 2).toNat)=true:=List.all_eq_true.2 fun x hx=>List.all_eq_true.1 hall x (List.mem_of_mem_drop hx)
   have hbt:bl t=(bcdN (bl b)).drop (n % 2).toNat:=by rw[ht];exact z2j (z160 hdall)
   have hts:t.size=2*b.size-(n % 2).toNat:=by rw[←zg,hbt,List.length_drop,zt9,zg]
   have hX:bcdX t=bcdN (bl b):=by
    unfold bcdX
    by_cases hp:n % 2=1
    ·rw[if_pos (by omega),hbt,show(n % 2).toNat=1 by omega]
     have h1:=g2 rfl (by rw[zT hp])
     cases hl:bl b with
     |nil=>
      have h9:b.size=0:=by rw[←zg,hl];rfl
      omega
     |cons x r=>
      rw[hl] at h1
      have h1:x/16=0:=h1
      rw[bcdN,List.drop_succ_cons,List.drop_zero,h1];rfl
    ·rw[if_neg (by omega),hbt,show(n % 2).toNat=0 by omega,List.drop_zero]
   have hd:allD (bl t)=true:=by rw[hbt];exact hdall
   refine⟨?_,by omega,hd⟩
   rw[zj1 (by omega) hd,hX,bcdPN hby,z43]
end Groat

namespace Groat
open Go.IntKind renaming wrap→zW,i64→zI,u8→zU
open Go Go.Ref
theorem dig16{a:Int}(h:isDig a=true):zW zU ((16:Int)*(zW zU (a-48)))=16*(a-48):=by
 have:=z23.1 h
 simp [IntKind.wrap,IntKind.signed,IntKind.bits]
 omega
theorem dig17{c a:Int}(h:isDig a=true)(hc:isDig c=true):zW zU (16*(c-48)+zW zU (a-48))=16*(c-48)+(a-48):=by
 have:=z23.1 h
 have:=z23.1 hc
 simp [IntKind.wrap,IntKind.signed,IntKind.bits]
 omega
theorem z1ur(o:List Int)(x y:Int):(o++ [x]).set o.length y=o++ [y]:=by
 rw[List.set_append_right _ _ (Nat.le_refl _)];simp
theorem z1n5(o:List Int)(x:Int):(o++ [x]).getD o.length 0=x:=by
 rw[List.getD_eq_getElem?_getD,List.getElem?_append_right (Nat.le_refl _)];simp
theorem zyu(s:ByteArray)(hs:s.size≤1099511627776)(hd:allD (bl s)=true):∀(n j k:Nat),j+n=s.size→n<k→
 (∀o:List Int,o.length+n≤35184372088832→n % 2=0→z69 k s o 0 (j:Int)=some (o++bcdP ((bl s).drop j)))∧
 (∀(o:List Int) (c:Int),o.length+n≤35184372088832→isDig c=true→n % 2=1→z69 k s (o++ [16*(c-48)]) 1 (j:Int)=some (o++bcdP (c::(bl s).drop j)))
 |n,j,0,_,hk=>by omega
 |0,j,k+1,hj,hk=>by
  refine⟨fun o ho hp=> ?_,fun o c ho hc hp=>by omega⟩
  unfold z69 zd6
  rw[zF (by omega),zD,List.drop_eq_nil_of_le (by rw[zg];omega)]
  simp [bcdP]
 |n+1,j,k+1,hj,hk=>by
  have hlt:j<s.size:=by omega
  have hl:j<(bl s).length:=by rw[zg];exact hlt
  have d1:=List.all_eq_true.1 hd _ (List.getElem_mem hl)
  obtain⟨ih0,ih1⟩:=zyu s hs hd n (j+1) k (by omega) (by omega)
  refine⟨fun o ho hp=> ?_,fun o c ho hc hp=> ?_⟩
  ·unfold z69 zd6
   rw[zT (by omega),zC,zh hlt,Int.toNat_natCast,z2x hl,dig16 d1,zo (by omega),zT (rfl:(0:Int)=0),zC,zT (by simp only[List.length_singleton];omega),zC]
   rw[show zW zI ((1:Int)-0)=1 from by decide]
   dsimp only
   rw[ih1 o _ (by omega) d1 (by omega),←List.drop_eq_getElem_cons hl]
  ·unfold z69 zd6
   have hi:zW zI ((((o++ [16*(c-48)]).length:Nat):Int)-1)=(o.length:Int):=by
    rw[zi (by simp only[List.length_append,List.length_singleton];omega) (by simp only[List.length_append,List.length_singleton];omega),List.length_append,List.length_singleton];omega
   rw[zT (by omega),zC,zh hlt,Int.toNat_natCast,z2x hl,zo (by omega),zF (by decide:¬(1:Int)=0),zD,hi,zh (by rw[List.length_append,List.length_singleton];omega),Int.toNat_natCast,z1n5,z1ur,dig17 d1 hc]
   rw[show zW zI ((1:Int)-1)=0 from by decide]
   dsimp only
   rw[ih0 _ (by rw[List.length_append,List.length_singleton];omega) (by omega),List.drop_eq_getElem_cons hl,bcdP,List.append_assoc]
   rfl
theorem zrt(s:ByteArray)(hs:s.size≤maxLen):Q78 s=some (z2m s):=by
 unfold Q78 zd5 z2m
 by_cases h1:(999:Int)<(s.size:Int)
 ·rw[zT h1,zC,zF (by omega)];rfl
 ·rw[zF h1,zD,zdo s hs,zc]
  cases hd:allD (bl s) with
  |false=>rw[zF (p:=s.size≤999∧false=true) (fun h=>by cases h.2)];rfl
  |true=>
   rw[Bool.not_true,zD,zT (⟨by omega,rfl⟩:s.size≤999∧true=true),zC,z3j]
   obtain⟨l0,l1⟩:=zyu s (by omega) hd s.size 0 FUEL (by omega) (by rw[zn];omega)
   rw[show((0:Nat):Int)=0 from rfl,List.drop_zero] at l0 l1
   by_cases hp:s.size % 2=1
   ·rw[if_pos hp,zT (by omega),zC,hp,zT (by decide),zC]
    have:=l1 [] 48 (by simp;omega) rfl hp
    rw[List.nil_append] at this⊢
    dsimp only
    rw[show([(0:Int)]:List Int)=[16*((48:Int)-48)] from rfl,show((1:Nat):Int)=1 from rfl,this,zc]
    rfl
   ·rw[if_neg hp,zF (by omega),zD]
    have:=l0 [] (by simp;omega) (by omega)
    rw[List.nil_append] at this
    dsimp only
    rw[show s.size % 2=0 by omega,show((0:Nat):Int)=0 from rfl,this,zc]
    rfl
def preOk(style form:Int):Bool:=decide ((style=1∨style=2)∧(form=2∨form=3))
def preS(style form:Int):Nat:=if style=2 then(form.toNat+1)/2 else form.toNat
def z6i(style form n:Int):ByteArray×Int:=
 bif preOk style form then(bif(putD n form).2 then(if style=2 then(z2m (putD n form).1).1 else(putD n form).1,0) else(bs [],5)) else(bs [],1)
def preT(style form:Int)(s:ByteArray):Option Int:=
 if style=2 then(if(z1l s form).2.1=0 then(if(getD' (bl (z1l s form).1)).2=true then some (getD' (bl (z1l s form).1)).1 else none) else none) else if(getD' (bl s)).2=true then some (getD' (bl s)).1 else none
def z1j(style form:Int)(b:ByteArray)(at_:Int):Int×Int×Int:=
 bif preOk style form&&decide (0≤at_∧at_≤b.size) then(if b.size<at_.toNat+preS style form then(0,0,2) else
  match preT style form (b.extract at_.toNat (at_.toNat+preS style form)) with
  |some n=>(n,((at_.toNat+preS style form:Nat):Int),0)
  |none=>(0,0,3)) else(0,0,1)
theorem zk6(n w:Int):(putD n w).1.size≤18:=by
 by_cases h:0≤n∧1≤w∧w≤18∧n.toNat/10^w.toNat=0
 ·rw[zk7 h];show(strOf _).size≤18;rw[z1d,zeh];omega
 ·rw[z6j h];decide
theorem z1o2(style form n:Int)(hn:n≤9223372036854775807):Q195 style form n=some (z6i style form n):=by
 unfold Q195 zo5 Q196 zcg Q197 zch z6i preOk
 by_cases h1:style=1<;>by_cases h2:style=2<;>by_cases h3:form=2<;>by_cases h4:form=3<;>(try(exfalso;omega))<;>simp [h1,h2,h3,h4,z1zf _ _ hn]
 all_goals
  cases hp:(putD n _).2<;>simp [hp]
 all_goals
  rw[ziz _ (by have:=zk6 n;simp only[maxLen];first|(have:=this 2;omega)|(have:=this 3;omega))]
  rfl
theorem z1pi(style form n:Int)(hn:n≤9223372036854775807):Q93 style form n=some (z6i style form n):=by
 unfold Q93 zxl Q94 ziq z6i preOk
 by_cases h1:style=1<;>by_cases h2:style=2<;>by_cases h3:form=2<;>by_cases h4:form=3<;>(try(exfalso;omega))<;>simp [h1,h2,h3,h4,z185 _ _ hn]
 all_goals
  cases hp:(putD n _).2<;>simp [hp]
 all_goals
  rw[zrt _ (by have:=zk6 n;simp only[maxLen];first|(have:=this 2;omega)|(have:=this 3;omega))]
  rfl
theorem z3z{b:ByteArray}{i n:Nat}(h:i+n≤b.size):(b.extract i (i+n)).size=n:=by rw[ByteArray.size_extract];omega
theorem z5e{b t:ByteArray}{n e i:Int}(h:z1l b n=(t,e,i)):t.size≤1998:=by
 unfold z1l at h
 split at h
 ·cases h;decide
 ·split at h
  ·cases h;decide
  ·split at h
   ·cases h;decide
   ·cases h
    rw[z1d,List.length_drop,zt9,List.length_take]
    omega
theorem z1o0(style form:Int)(b:ByteArray)(at_:Int)(hb:b.size≤1099511627776):Q193 style form b at_=some (z1j style form b at_):=by
 unfold Q193 zo2 Q196 zcg Q197 zch z1j preOk
 by_cases hat:0≤at_∧at_≤b.size
 ·obtain⟨m,rfl⟩:∃m:Nat,at_=m:=⟨at_.toNat,by omega⟩
  have hm:m≤b.size:=by omega
  have w0:zW zI ((b.size:Int)-(m:Int))=(b.size:Int)-m:=zi (by omega) (by omega)
  have w1:∀k:Nat,k≤3→zW zI ((m:Int)+(k:Int))=((m+k:Nat):Int):=fun k hk=>by rw[zi (by omega) (by omega)];omega
  have z1:=z6c 2 (by decide) (by decide)
  have z2:=z6c 3 (by decide) (by decide)
  have v1:=w1 1 (by decide)
  have v2:=w1 2 (by decide)
  have v3:=w1 3 (by decide)
  rw[show((1:Nat):Int)=1 from rfl] at v1
  rw[show((2:Nat):Int)=2 from rfl] at v2
  rw[show((3:Nat):Int)=3 from rfl] at v3
  have t2:((m:Int)+2).toNat=m+2:=by omega
  have t3:((m:Int)+3).toNat=m+3:=by omega
  have a1:¬(m:Int)<0:=by omega
  have a2:¬(b.size:Int)<m:=by omega
  have a3:0≤((m:Int)):=by omega
  have a4:(m:Int)≤b.size:=by omega
  by_cases h1:style=1<;>by_cases h2:style=2<;>by_cases h3:form=2<;>by_cases h4:form=3<;>(try(exfalso;omega))<;>simp [h1,h2,h3,h4,a1,a2,w0,z1,z2,v1,v2,v3,preS]
  all_goals
   rw[zT hm,zC]
   split
   ·rename_i hc
    rw[zT (by omega),zC]
   ·rename_i hc
    rw[zF (by omega),zD,zT (by omega),zC,zT (by omega),zC,zT (by omega),zC]
    try rw[t2]
    try rw[t3]
    first
     |(rw[z1i0 _ (by rw[ByteArray.size_extract];simp only[maxLen];omega),zc]
       unfold preT
       rw[if_neg (by decide)]
       cases(getD' _).2<;>rfl)
     |(rw[ziy _ _ (by rw[ByteArray.size_extract];omega),zc]
       unfold preT
       rw[if_pos rfl]
       generalize hg:z1l _ _=gg
       obtain⟨t,e,i⟩:=gg
       dsimp only
       by_cases he:e=0
       ·rw[zT he,zC,if_pos he,z1i0 _ (by have:=z5e hg;simp only[maxLen];omega),zc]
        cases(getD' _).2<;>rfl
       ·rw[zF he,if_neg he];rfl)
 ·rw[zF (p:=0≤at_∧at_≤(b.size:Int)) hat,Bool.and_false,zD]
  by_cases h1:style=1<;>by_cases h2:style=2<;>by_cases h3:form=2<;>by_cases h4:form=3<;>(try(exfalso;omega))<;>by_cases h5:at_<0<;>by_cases h6:(b.size:Int)<at_<;>(try(exfalso;omega))<;>simp [h1,h2,h3,h4,h5,h6]
theorem z1pd(style form:Int)(b:ByteArray)(at_:Int)(hb:b.size≤1099511627776):Q92 style form b at_=some (z1j style form b at_):=by
 unfold Q92 zxk Q94 ziq z1j preOk
 by_cases hat:0≤at_∧at_≤b.size
 ·obtain⟨m,rfl⟩:∃m:Nat,at_=m:=⟨at_.toNat,by omega⟩
  have hm:m≤b.size:=by omega
  have w0:zW zI ((b.size:Int)-(m:Int))=(b.size:Int)-m:=zi (by omega) (by omega)
  have w1:∀k:Nat,k≤3→zW zI ((m:Int)+(k:Int))=((m+k:Nat):Int):=fun k hk=>by rw[zi (by omega) (by omega)];omega
  have z1:zW zI 1=1:=by decide
  have z2:zW zI 2=2:=by decide
  have v1:=w1 1 (by decide)
  have v2:=w1 2 (by decide)
  have v3:=w1 3 (by decide)
  rw[show((1:Nat):Int)=1 from rfl] at v1
  rw[show((2:Nat):Int)=2 from rfl] at v2
  rw[show((3:Nat):Int)=3 from rfl] at v3
  have t2:((m:Int)+2).toNat=m+2:=by omega
  have t3:((m:Int)+3).toNat=m+3:=by omega
  have a1:¬(m:Int)<0:=by omega
  have a2:¬(b.size:Int)<m:=by omega
  have a3:0≤((m:Int)):=by omega
  have a4:(m:Int)≤b.size:=by omega
  by_cases h1:style=1<;>by_cases h2:style=2<;>by_cases h3:form=2<;>by_cases h4:form=3<;>(try(exfalso;omega))<;>simp [h1,h2,h3,h4,a1,a2,w0,z1,z2,v1,v2,v3,preS]
  all_goals
   rw[zT hm,zC]
   split
   ·rename_i hc
    rw[zT (by omega),zC]
   ·rename_i hc
    rw[zF (by omega),zD,zT (by omega),zC,zT (by omega),zC,zT (by omega),zC]
    try rw[t2]
    try rw[t3]
    first
     |(rw[zds _ (by rw[ByteArray.size_extract];simp only[maxLen];omega),zc]
       unfold preT
       rw[if_neg (by decide)]
       cases(getD' _).2<;>rfl)
     |(rw[zrr _ _ (by rw[ByteArray.size_extract];omega),zc]
       unfold preT
       rw[if_pos rfl]
       generalize hg:z1l _ _=gg
       obtain⟨t,e,i⟩:=gg
       dsimp only
       by_cases he:e=0
       ·rw[zT he,zC,if_pos he,zds _ (by have:=z5e hg;simp only[maxLen];omega),zc]
        cases(getD' _).2<;>rfl
       ·rw[zF he,if_neg he];rfl)
 ·rw[zF (p:=0≤at_∧at_≤(b.size:Int)) hat,Bool.and_false,zD]
  by_cases h1:style=1<;>by_cases h2:style=2<;>by_cases h3:form=2<;>by_cases h4:form=3<;>(try(exfalso;omega))<;>by_cases h5:at_<0<;>by_cases h6:(b.size:Int)<at_<;>(try(exfalso;omega))<;>simp [h1,h2,h3,h4,h5,h6]
end Groat

namespace Groat
open Go.IntKind renaming wrap→zW,i64→zI,u8→zU
open Go Go.Ref
theorem z14l(n:Int):Q4 n=some (if n<0∨65535<n then 0 else if 255<n then 3 else if 127<n then 2 else 1):=by
 unfold Q4 Q4_s0
 by_cases h1:n<0
 ·rw[zT h1,if_pos (.inl h1)];rfl
 by_cases h2:(65535:Int)<n
 ·rw[zF h1,zT h2,if_pos (.inr h2)];rfl
 rw[zF h1,zF h2,if_neg (by omega)]
 by_cases h3:(255:Int)<n
 ·rw[zT h3,if_pos h3];rfl
 by_cases h4:(127:Int)<n
 ·rw[zF h3,zT h4,if_neg h3,if_pos h4];rfl
 ·rw[zF h3,zF h4,if_neg h3,if_neg h4];rfl
theorem fuel3:∃k,FUEL=k+1+1+1:=⟨FUEL-3,by rw[zn]⟩
theorem or_zero{y:Int}(hy:zq y):ibits .or .i64 (zW zI (0*2^min (8:Int).toNat 64)) (zW zI y)=y:=by
 obtain⟨k,rfl⟩:=z1n hy
 clear hy
 revert k
 decide+kernel
theorem z1m6(s:ByteArray)(hs:s.size≤9223372036854775000)(a:Int):Q3 s a=Q97 s a:=by
 unfold Q3 Q3_s0 Q97 zis
 by_cases h1:a<0
 ·rw[zT h1];rfl
 rw[zF h1,zD,zD]
 by_cases h2:(s.size:Int)<a
 ·rw[zT h2];rfl
 rw[zF h2,zD,zD]
 by_cases h3:a=(s.size:Int)
 ·rw[zT h3];rfl
 have wa:∀{R:Type} (x:Option R),zd a s.size x=x:=fun x=>zl (by omega) (by omega)
 rw[zF h3,zD,zD]
 simp only[wa]
 obtain⟨x,hx⟩:=z1n (z1y s a.toNat)
 have hx2:=x.2
 have w1:zW zI (a+1)=a+1:=zi (by omega) (by omega)
 have w2:zW zI (x.1:Int)=(x.1:Int):=zi (by omega) (by omega)
 have w4:zW zI ((s.size:Int)-a)=(s.size:Int)-a:=zi (by omega) (by omega)
 have w5:zW zI ((s.size:Int)-(a+1))=(s.size:Int)-(a+1):=zi (by omega) (by omega)
 have w6:zW zI ((x.1:Int)-128)=(x.1:Int)-128:=zi (by omega) (by omega)
 have w7:zW zI ((x.1:Int)-127)=(x.1:Int)-127:=zi (by omega) (by omega)
 obtain⟨k,hk⟩:=fuel3
 simp only[hx,w2,w1,w4,w5,w6,w7,hk]
 by_cases h4:(127:Int)<(x.1:Int)
 ·rw[zT h4,zC,zF (by omega:¬(x.1:Int)<128),zD]
  by_cases h5:(x.1:Int)=129
  ·have wn:zW zI (0+1)=1:=rfl
   simp only[h5]
   by_cases h6:(s.size:Int)-a<2
   ·have e1:((s.size:Int)-(a+1)<129-128):=by omega
    have e2:((s.size:Int)-a<129-127):=by omega
    rw[zT e1,zT e2];rfl
   ·have e1:¬((s.size:Int)-(a+1)<129-128):=by omega
    have e2:¬((s.size:Int)-a<129-127):=by omega
    have wb:∀{R:Type} (x:Option R),zd (a+1) s.size x=x:=fun x=>zl (by omega) (by omega)
    have wc:∀{R:Type} (x:Option R),zd (zW zI (a+1+0)) s.size x=x:=fun x=>by rw[Int.add_zero,w1];exact wb x
    obtain⟨y,hy⟩:=z1n (z1y s (a+1).toNat)
    have hy2:=y.2
    have w3:zW zI (y.1:Int)=(y.1:Int):=zi (by omega) (by omega)
    have oz:=or_zero (y:=(y.1:Int)) ⟨by omega,by omega⟩
    rw[w3] at oz
    rw[zF e1,zF e2]
    have l1:Q3_l0 (k+1+1+1) s (a+1) 0 (129-128) (129-128) 0=some (a+1,(y.1:Int),129-128):=by
     simp only[Q3_l0,Q3_s1]
     rw[show decide ((0:Int)<129-128)=true from rfl,zC,wc,wn,show decide ((1:Int)<129-128)=false from rfl,zD,Int.add_zero,w1,hy,w3,oz]
    simp only[wb,hy,w3]
    show(Q3_l0 (k+1+1+1) s (a+1) 0 (129-128) (129-128) 0).bind _=_
    rw[l1,Option.bind_some]
    unfold Q3_s2
    dsimp only
    rw[z14l,Option.bind_some]
    by_cases h7:(y.1:Int)<128
    ·rw[if_neg (by omega),if_neg (by omega),if_neg (by omega),zT h7];rfl
    ·rw[if_neg (by omega),if_neg (by omega),if_pos (by omega),zF h7]
     have:zW zI (a+1+(129-128))=zW zI (a+2):=by congr 1;omega
     simp only[this]
     rfl
  ·by_cases h6:(x.1:Int)=130
   ·have wn:zW zI (0+1)=1:=rfl
    have wm:zW zI (1+1)=2:=rfl
    simp only[h6]
    by_cases h7:(s.size:Int)-a<3
    ·have e1:((s.size:Int)-(a+1)<130-128):=by omega
     have e2:((s.size:Int)-a<130-127):=by omega
     rw[zT e1,zT e2];rfl
    ·have e1:¬((s.size:Int)-(a+1)<130-128):=by omega
     have e2:¬((s.size:Int)-a<130-127):=by omega
     have wb:∀{R:Type} (x:Option R),zd (a+1) s.size x=x:=fun x=>zl (by omega) (by omega)
     have w8:zW zI (a+2)=a+2:=zi (by omega) (by omega)
     have w9:zW zI (a+1+1)=a+2:=by rw[zi (by omega) (by omega)];omega
     have wd:∀{R:Type} (x:Option R),zd (a+2) s.size x=x:=fun x=>zl (by omega) (by omega)
     obtain⟨y,hy⟩:=z1n (z1y s (a+1).toNat)
     obtain⟨z,hz⟩:=z1n (z1y s (a+2).toNat)
     have hy2:=y.2
     have hz2:=z.2
     have w3:zW zI (y.1:Int)=(y.1:Int):=zi (by omega) (by omega)
     have w3':zW zI (z.1:Int)=(z.1:Int):=zi (by omega) (by omega)
     have oz:=or_zero (y:=(y.1:Int)) ⟨by omega,by omega⟩
     have ob:=z1ca (x:=(y.1:Int)) (y:=(z.1:Int)) ⟨by omega,by omega⟩ ⟨by omega,by omega⟩
     rw[w3] at oz
     rw[w3,w3'] at ob
     rw[zF e1,zF e2]
     have l1:Q3_l0 (k+1+1+1) s (a+1) 0 (130-128) (130-128) 0=some (a+1,(y.1:Int)*256+(z.1:Int),130-128):=by
      simp only[Q3_l0,Q3_s1]
      rw[show decide ((0:Int)<130-128)=true from rfl,zC,wn,wm,show decide ((1:Int)<130-128)=true from rfl,zC,show decide ((2:Int)<130-128)=false from rfl,zD,Int.add_zero,w1,wb,w9,wd,hy,hz,w3,w3',oz,ob]
     have w5':zW zI (256*(y.1:Int))=256*(y.1:Int):=zi (by omega) (by omega)
     have w6':zW zI (256*(y.1:Int)+(z.1:Int))=(y.1:Int)*256+(z.1:Int):=by rw[zi (by omega) (by omega)];omega
     simp only[wb,w8,wd,hy,hz,w3,w3',w5',w6']
     show(Q3_l0 (k+1+1+1) s (a+1) 0 (130-128) (130-128) 0).bind _=_
     rw[l1,Option.bind_some]
     unfold Q3_s2
     dsimp only
     rw[z14l,Option.bind_some]
     by_cases h8:(y.1:Int)=0
     ·rw[if_neg (by omega),if_neg (by omega),zT h8]
      by_cases h9:(127:Int)<(y.1:Int)*256+(z.1:Int)
      ·rw[if_pos h9];rfl
      ·rw[if_neg h9];rfl
     ·rw[if_neg (by omega),if_pos (by omega),zF h8]
      have:zW zI (a+1+(130-128))=zW zI (a+3):=by congr 1;omega
      simp only[this]
      rfl
   ·rw[zF h5,zF h6]
    by_cases h7:(x.1:Int)=128
    ·rw[zT h7];rfl
    ·rw[zF h7,zT (by omega:(130:Int)<(x.1:Int))];rfl
 ·rw[zF h4,zD,zT (by omega:(x.1:Int)<128),zC,zF (by omega:¬(s.size:Int)-(a+1)<0),zD]
  have l1:Q3_l0 (k+1+1+1) s (a+1) (x.1:Int) 0 0 0=some (a+1,(x.1:Int),0):=by
   simp only[Q3_l0,Q3_s1]
   rw[show decide ((0:Int)<0)=false from rfl,zD]
  show(Q3_l0 (k+1+1+1) s (a+1) (x.1:Int) 0 0 0).bind _=_
  rw[l1,Option.bind_some]
  unfold Q3_s2
  dsimp only
  rw[z14l,Option.bind_some,if_neg (by omega),if_neg (by omega),if_neg (by omega),Int.add_zero,w1]
  rfl
end Groat

namespace Groat
open Go.IntKind renaming wrap→zW,i64→zI,u8→zU
open Go Go.Ref
abbrev Val:=Int×ByteArray×Unit
theorem zye(l:List Val)(hl:l.length≤9223372036854775807)(t:Int):∀(m j k:Nat),j+m=l.length→m<k→za3 k l (l.length:Int) t (j:Int)=some (if t∈(l.drop j).map (fun v=>v.1) then .inl true else .inr ())
 |m,j,0,_,hk=>by omega
 |0,j,k+1,hj,hk=>by
  unfold za3 ziv
  rw[zF (by omega),List.drop_eq_nil_of_le (by omega)];rfl
 |m+1,j,k+1,hj,hk=>by
  have hlt:j<l.length:=by omega
  have hg:∀d,l.getD j d=l[j]:=fun d=>by rw[List.getD_eq_getElem?_getD,List.getElem?_eq_getElem hlt];rfl
  unfold za3 ziv
  rw[zT (by omega),zC,zh hlt,Int.toNat_natCast,hg,List.drop_eq_getElem_cons hlt,List.map_cons]
  by_cases h:l[j].1=t
  ·rw[zT h,if_pos (by rw[h];exact List.mem_cons_self)];rfl
  ·rw[zF h,zD,zo (by omega)]
   dsimp only
   rw[zye l hl t m (j+1) k (by omega) (by omega)]
   by_cases h2:t∈(l.drop (j+1)).map (fun v=>v.1)
   ·rw[if_pos h2,if_pos (List.mem_cons_of_mem _ h2)]
   ·rw[if_neg h2,if_neg (fun h3=>(List.mem_cons.1 h3).elim (fun e=>h e.symm) h2)]
theorem z1bk(l:List Val)(hl:l.length≤maxLen)(t:Int):Q99 l (l.length:Int) t=some (decide (t∈l.map fun v=>v.1)):=by
 rw[zj] at hl
 unfold Q99 zxo
 dsimp only
 have:=zye l hl t l.length 0 FUEL (by omega) (by rw[zn];omega)
 rw[show((0:Nat):Int)=(0:Int) from rfl,List.drop_zero] at this
 rw[this,Option.bind_some]
 by_cases h:t∈l.map fun v=>v.1
 ·rw[if_pos h,zT h];rfl
 ·rw[if_neg h,zF h];rfl
theorem z1cv(b:ByteArray)(hb:b.size≤9223372036854775000):∀(k:Nat) (t5:List Val) (t7:Int),t5.length≤5864062014805→z9a k b t5 t7 (seenM (t5.map fun v=>v.1))=z7w k b t5 t7
 |0,_,_,_=>rfl
 |k+1,t5,t7,hl=>by
  unfold z9a zps z7w ziu
  rw[z1oj b hb]
  generalize decide (t7<(b.size:Int))=c0
  cases c0 with
  |false=>rfl
  |true=>
   simp only[zC]
   cases Q96 b t7 with
   |none=>rfl
   |some r1=>
    simp only[Option.bind_some]
    generalize(!decide (r1.2.2=0))=c1
    cases c1 with
    |true=>rfl
    |false=>
     simp only[zD]
     rw[z1m6 b hb]
     cases Q97 b r1.2.1 with
     |none=>rfl
     |some r2=>
      simp only[Option.bind_some]
      generalize(!decide (r2.2.2=0))=c2
      cases c2 with
      |true=>rfl
      |false=>
       simp only[zD]
       generalize decide (zW zI ((b.size:Int)-r2.2.1)<r2.1)=c3
       cases c3 with
       |true=>rfl
       |false=>
        simp only[zD]
        rw[z1bk t5 (by rw[zj];omega),Option.bind_some]
        have e1:=zav (eqK (.int .i64)) (fun _ _=>rfl) r1.1 (t5.map fun v=>v.1)
        have e2:=zaw (eqK (.int .i64)) (fun _ _=>rfl) r1.1 (t5.map fun v=>v.1)
        by_cases hm:r1.1∈t5.map fun v=>v.1
        ·rw[e1.2 hm,zT hm];rfl
        ·rw[z4k e1 hm,z4k e2 hm,zF hm]
         simp only[zD]
         rw[zaj]
         have hs:(t5.map fun v=>v.1)++ [r1.1]=(t5++ [((r1.1,(b.extract r2.2.1.toNat (zW zI (r2.2.1+r2.1)).toNat),()):Val)]).map fun v=>v.1:=by simp
         rw[hs]
         by_cases hn:(t5.length+1)*24≤140737488355328
         ·rw[z1cv b hb k _ _ (by simp;omega)]
         ·have:decide ((t5.length+(List.length ([(r1.1,(b.extract r2.2.1.toNat (zW zI (r2.2.1+r2.1)).toNat),())]:List Val)))*24≤140737488355328)=false:=zF (by simp;omega)
          simp only[this,zD]
theorem z1oo(b:ByteArray)(hb:b.size≤9223372036854775000):Q242 b=Q98 b:=by
 unfold Q242 zpr Q98 zit
 dsimp only
 have:=z1cv b hb FUEL [] 0 (by simp)
 rw[show seenM (([]:List Val).map fun v=>v.1)=[] from rfl] at this
 rw[this]
 rfl
theorem z1t4(s:Spec)(x:ByteArray)(hx:x.size≤9223372036854775000):Q229 s x=Q101 s x:=by
 unfold Q229 zp9 Q101 z8o
 rw[z4o,z1k,z1p8 _ _ (by rw[zj];omega),zdr _ _ (by rw[zj];omega),z1oo x hx]
theorem z1co(a b:Spec):Q230 a b=Q102 a b:=by
 unfold Q230 zpa Q102 z8p Q231 zpb
 rw[z4o,z1k,z4o,z1k,z1t5,ze1]
 simp only[Option.bind_some]
 by_cases h1:specC a=0
 ·by_cases h2:specC b=0
  ·simp only[h1,h2,decide_true,zC,Bool.not_true,zD]
   by_cases h3:a.2.2.2.1≤b.2.2.2.1
   ·rw[zT h3,zF (by omega:¬b.2.2.2.1<a.2.2.2.1)]
    by_cases h4:b.2.2.2.2.1≤a.2.2.2.2.1
    ·rw[zT h4,zF (by omega:¬a.2.2.2.2.1<b.2.2.2.2.1)]
     simp only[zC,zD]
     by_cases h5:a.2.1=5
     ·simp [h5]
     ·by_cases h6:a.2.1=6
      ·simp [h6]
      ·by_cases h7:b.2.1=6
       ·simp [h5,h6,h7]
       ·simp [h5,h6,h7]
    ·rw[zF h4,zT (by omega:a.2.2.2.2.1<b.2.2.2.2.1)];rfl
   ·rw[zF h3,zT (by omega:b.2.2.2.1<a.2.2.2.1)];rfl
  ·simp [h1,h2]
 ·simp [h1]
end Groat

namespace Groat
open Go.IntKind renaming wrap→zW,i64→zI,u8→zU
open Go Go.Ref
theorem z1ok(s:ByteArray)(hs:s.size≤9223372036854775000)(a:Int)(h0:0≤a)(h1:a<s.size):∃r,Q96 s a=some r∧(r.2.2=0→a<r.2.1∧r.2.1≤s.size):=by
 unfold Q96 zir
 have wa:∀{R:Type} (x:Option R),zd a s.size x=x:=fun x=>zl (by omega) (by omega)
 rw[zF (by omega:¬a<0),zF (by omega:¬(s.size:Int)<a),zF (by omega:¬a=(s.size:Int))]
 simp only[zD,wa]
 obtain⟨x,hx⟩:=z1n (z1y s a.toNat)
 have w1:zW zI (a+1)=a+1:=zi (by omega) (by omega)
 have w4:zW zI ((s.size:Int)-a)=(s.size:Int)-a:=zi (by omega) (by omega)
 rw[hx,w1,w4]
 rcases zek x with h|⟨h,h31⟩|⟨h,h31⟩
 ·rw[h];exact⟨_,rfl,fun h=>by cases h⟩
 ·rw[h]
  exact⟨_,rfl,fun _=>⟨by show a<a+1;omega,by show a+1≤_;omega⟩⟩
 ·rw[h,Option.bind_some]
  simp only[show decide ((2:Int)=0)=false from rfl,show decide ((2:Int)=1)=false from rfl,zD]
  by_cases h4:(s.size:Int)-a<2
  ·rw[zT h4];exact⟨_,rfl,fun h=>by cases h⟩
  ·have wb:∀{R:Type} (x:Option R),zd (a+1) s.size x=x:=fun x=>zl (by omega) (by omega)
   have w2:zW zI (a+2)=a+2:=zi (by omega) (by omega)
   rw[zF h4]
   simp only[zD,wb]
   generalize decide (ze s (a+1).toNat=0)=c1
   generalize decide ((127:Int)<ze s (a+1).toNat)=c2
   cases c1
   ·cases c2
    ·exact⟨_,rfl,fun _=>⟨by show a<zW zI (a+2);rw[w2];omega,by show zW zI (a+2)≤_;rw[w2];omega⟩⟩
    ·exact⟨_,rfl,fun h=>by cases h⟩
   ·exact⟨_,rfl,fun h=>by cases h⟩
theorem z1m7(s:ByteArray)(hs:s.size≤9223372036854775000)(a:Int)(h0:0≤a)(h1:a≤s.size):∃r,Q97 s a=some r∧(r.2.2=0→a<r.2.1∧r.2.1≤s.size∧0≤r.1∧r.1≤65535):=by
 unfold Q97 zis
 rw[zF (by omega:¬a<0),zF (by omega:¬(s.size:Int)<a)]
 simp only[zD]
 by_cases he:a=(s.size:Int)
 ·rw[zT he];exact⟨_,rfl,fun h=>by cases h⟩
 have wa:∀{R:Type} (x:Option R),zd a s.size x=x:=fun x=>zl (by omega) (by omega)
 rw[zF he]
 simp only[zD,wa]
 obtain⟨x,hx⟩:=z1n (z1y s a.toNat)
 have hx2:=x.2
 have w1:zW zI (a+1)=a+1:=zi (by omega) (by omega)
 have w2:zW zI (x.1:Int)=(x.1:Int):=zi (by omega) (by omega)
 have w4:zW zI ((s.size:Int)-a)=(s.size:Int)-a:=zi (by omega) (by omega)
 have w7:zW zI ((x.1:Int)-127)=(x.1:Int)-127:=zi (by omega) (by omega)
 simp only[hx,w2,w1,w4,w7]
 by_cases h4:(x.1:Int)<128
 ·rw[zT h4]
  exact⟨_,rfl,fun _=>⟨by show a<a+1;omega,by show a+1≤_;omega,by show(0:Int)≤(x.1:Int);omega,by show(x.1:Int)≤65535;omega⟩⟩
 rw[zF h4]
 have h08:∀i,zq (ze s i):=z1y s
 by_cases h5:(x.1:Int)=129
 ·have wb:(s.size:Int)-a<(x.1:Int)-127∨∀{R:Type} (x:Option R),zd (a+1) s.size x=x:=by
   by_cases h:(s.size:Int)-a<(x.1:Int)-127
   ·exact .inl h
   ·exact .inr fun x=>zl (by omega) (by omega)
  rw[zT h5]
  simp only[Bool.not_true,zD,zC]
  by_cases h6:(s.size:Int)-a<(x.1:Int)-127
  ·rw[zT h6];exact⟨_,rfl,fun h=>by cases h⟩
  ·have wb:∀{R:Type} (x:Option R),zd (a+1) s.size x=x:=fun x=>zl (by omega) (by omega)
   have w8:zW zI (a+2)=a+2:=zi (by omega) (by omega)
   obtain⟨y,hy⟩:=z1n (h08 (a+1).toNat)
   have hy2:=y.2
   have w3:zW zI (y.1:Int)=(y.1:Int):=zi (by omega) (by omega)
   rw[zF h6]
   simp only[zD,wb,hy,w3,w8]
   generalize decide ((y.1:Int)<128)=c
   cases c
   ·exact⟨_,rfl,fun _=>⟨by show a<a+2;omega,by show a+2≤_;omega,by show(0:Int)≤(y.1:Int);omega,by show(y.1:Int)≤65535;omega⟩⟩
   ·exact⟨_,rfl,fun h=>by cases h⟩
 ·rw[zF h5]
  simp only[Bool.not_false,zD,zC]
  by_cases h9:(x.1:Int)=130
  ·rw[zT h9]
   simp only[Bool.not_true,zD]
   by_cases h6:(s.size:Int)-a<(x.1:Int)-127
   ·rw[zT h6];exact⟨_,rfl,fun h=>by cases h⟩
   ·have wb:∀{R:Type} (x:Option R),zd (a+1) s.size x=x:=fun x=>zl (by omega) (by omega)
    have w8:zW zI (a+2)=a+2:=zi (by omega) (by omega)
    have w9:zW zI (a+3)=a+3:=zi (by omega) (by omega)
    have wd:∀{R:Type} (x:Option R),zd (a+2) s.size x=x:=fun x=>zl (by omega) (by omega)
    obtain⟨y,hy⟩:=z1n (h08 (a+1).toNat)
    obtain⟨z,hz⟩:=z1n (h08 (a+2).toNat)
    have hy2:=y.2
    have hz2:=z.2
    have w3:zW zI (y.1:Int)=(y.1:Int):=zi (by omega) (by omega)
    have w3':zW zI (z.1:Int)=(z.1:Int):=zi (by omega) (by omega)
    have w5':zW zI (256*(y.1:Int))=256*(y.1:Int):=zi (by omega) (by omega)
    have w6':zW zI (256*(y.1:Int)+(z.1:Int))=256*(y.1:Int)+(z.1:Int):=zi (by omega) (by omega)
    rw[zF h6]
    simp only[zD,wb,w8,wd,hy,hz,w3,w3',w5',w6',w9]
    generalize decide ((y.1:Int)=0)=c
    cases c
    ·exact⟨_,rfl,fun _=>⟨by show a<a+3;omega,by show a+3≤_;omega,by show(0:Int)≤256*(y.1:Int)+(z.1:Int);omega,by show 256*(y.1:Int)+(z.1:Int)≤65535;omega⟩⟩
    ·exact⟨_,rfl,fun h=>by cases h⟩
  ·rw[zF h9];exact⟨_,rfl,fun h=>by cases h⟩
theorem zan(b:ByteArray)(hb:b.size≤1099511627776):∀(n:Nat) (k:Nat) (t5:List Val) (a:Int),0≤a→a≤b.size→(b.size:Int)-a≤n→n<k→t5.length+n≤2199023255552→∃r,z7w k b t5 a=some r
 |n,0,_,_,_,_,_,h,_=>by omega
 |n,k+1,t5,a,h0,h1,h2,h3,h4=>by
  unfold z7w ziu
  by_cases hlt:a<(b.size:Int)
  ·obtain⟨r1,e1,p1⟩:=z1ok b (by omega) a h0 hlt
   rw[zT hlt,e1,Option.bind_some,zC]
   by_cases z1:r1.2.2=0
   ·obtain⟨q1,q2⟩:=p1 z1
    obtain⟨r2,e2,p2⟩:=z1m7 b (by omega) r1.2.1 (by omega) q2
    simp only[z1,decide_true,Bool.not_true,zD]
    rw[e2,Option.bind_some]
    by_cases z2:r2.2.2=0
    ·obtain⟨u1,u2,u3,u4⟩:=p2 z2
     simp only[z2,decide_true,Bool.not_true,zD]
     have w1:zW zI ((b.size:Int)-r2.2.1)=(b.size:Int)-r2.2.1:=zi (by omega) (by omega)
     have w2:zW zI (r2.2.1+r2.1)=r2.2.1+r2.1:=zi (by omega) (by omega)
     rw[w1,w2]
     by_cases z3:(b.size:Int)-r2.2.1<r2.1
     ·rw[zT z3];exact⟨_,rfl⟩
     ·rw[zF z3,zD,z1bk t5 (by rw[zj];omega),Option.bind_some]
      generalize decide (r1.1∈t5.map fun v=>v.1)=c
      cases c with
      |true=>exact⟨_,rfl⟩
      |false=>
       rw[zD,zT (by omega:0≤r2.2.1+r2.1),zT (by omega:r2.2.1+r2.1≤(((b.size:Nat):Int))),zT (by omega:0≤r2.2.1),zT (by omega:r2.2.1≤(((r2.2.1+r2.1).toNat:Nat):Int)),zT (by simp;omega)]
       simp only[zC]
       obtain⟨n,rfl⟩:∃n',n=n'+1:=⟨n-1,by omega⟩
       exact zan b hb n k _ _ (by omega) (by omega) (by omega) (by omega) (by simp;omega)
    ·simp only[z2,decide_false,Bool.not_false,zC];exact⟨_,rfl⟩
   ·simp only[z1,decide_false,Bool.not_false,zC];exact⟨_,rfl⟩
  ·rw[zF hlt];exact⟨_,rfl⟩
theorem zrp(b:ByteArray)(hb:b.size≤1099511627776):∃r,Q98 b=some r:=by
 unfold Q98 zit
 dsimp only
 obtain⟨r,hr⟩:=zan b hb b.size FUEL [] 0 (by omega) (by omega) (by omega) (by rw[zn];omega) (by simp;omega)
 rw[hr,Option.bind_some]
 cases r<;>exact⟨_,rfl⟩
@[irreducible] def valC (s:Spec) (x:ByteArray):Int:=(Q101 s x).getD 0
theorem z27(s:Spec)(x:ByteArray)(hx:x.size≤1099511627776):Q101 s x=some (valC s x):=by
 have:∃v,Q101 s x=some v:=by
  unfold Q101 z8o
  rw[z1k,Option.bind_some,zdr _ _ (by rw[zj];omega),Option.bind_some]
  obtain⟨r,hr⟩:=zrp x hx
  rw[hr,Option.bind_some]
  generalize(!decide (specC s=0))=c1
  generalize decide ((x.size:Int)<s.2.2.2.1)=c2
  generalize decide (s.2.2.2.2.1<(x.size:Int))=c3
  generalize decide ((0:Int)≤z39 s.2.1 (bl x) 0)=c4
  generalize decide (s.2.1=6)=c5
  cases c1<;>cases c2<;>cases c3<;>cases c4<;>cases c5<;>first|exact⟨_,rfl⟩|skip
  cases r with
  |inl r=>simp only[zD,zC,Sum.elim_inl];cases(!decide (r.2.1=0))<;>exact⟨_,rfl⟩
  |inr r=>simp only[zD,zC,Sum.elim_inr];cases(!decide (r.2.1=0))<;>exact⟨_,rfl⟩
 obtain⟨v,hv⟩:=this
 unfold valC
 rw[hv];rfl
theorem z2r(s:Spec)(x:ByteArray)(hx:x.size≤1099511627776):Q229 s x=some (valC s x):=by
 rw[z1t4 s x (by omega),z27 s x hx]
@[irreducible] def widS (a b:Spec):Bool:=(Q102 a b).getD false
theorem ze2(a b:Spec):Q102 a b=some (widS a b):=by
 have:∃v,Q102 a b=some v:=by
  unfold Q102 z8p
  rw[z1k,z1k,ze1]
  simp only[Option.bind_some]
  generalize(!decide (specC a=0))=c1
  generalize(!decide (specC b=0))=c2
  generalize decide (b.2.2.2.1<a.2.2.2.1)=c3
  generalize decide (a.2.2.2.2.1<b.2.2.2.2.1)=c4
  generalize decide (a.2.1=5)=c5
  generalize decide (a.2.1=6)=c6
  generalize decide (b.2.1=6)=c7
  cases c1<;>cases c2<;>cases c3<;>cases c4<;>cases c5<;>cases c6<;>cases c7<;>exact⟨_,rfl⟩
 obtain⟨v,hv⟩:=this
 unfold widS
 rw[hv];rfl
theorem z1lv(a b:Spec):Q230 a b=some (widS a b):=by rw[z1co,ze2]
end Groat

namespace Groat
open Go.IntKind renaming wrap→zW,i64→zI,u8→zU
open Go Go.Ref
abbrev Rule:=Int×Int×Int×ByteArray×List Pair×Unit
def getS(s:zf)(no:Int):Spec:=(findS s.2.2.1 no).getD spec0
def hasS(s:zf)(no:Int):Bool:=(findS s.2.2.1 no).isSome
theorem z3v(s:zf)(no:Int)(hl:s.2.2.1.length≤maxLen):Q222 s no=some (getS s no,hasS s no):=by
 rw[z1v9 s no hl]
 unfold getS hasS
 cases findS s.2.2.1 no<;>rfl
theorem z3u(s:zf)(no:Int):(idxS s.2.2.1 no 0= -1∧hasS s no=false∧getS s no=spec0)∨(0≤idxS s.2.2.1 no 0∧idxS s.2.2.1 no 0<s.2.2.1.length∧hasS s no=true∧s.2.2.1.getD (idxS s.2.2.1 no 0).toNat spec0=getS s no):=by
 unfold hasS getS
 rcases z1ha s.2.2.1 no 0 (Int.le_refl _) with⟨h1,h2⟩|⟨h1,h2,x,h3,h4⟩
 ·left;rw[h2];exact⟨h1,rfl,rfl⟩
 ·right;rw[h3];rw[Int.sub_zero] at h4;exact⟨h1,by omega,rfl,h4⟩
def endsE(r:Rule)(a b:zf):Bool:=
 (bif decide (r.1=3) then !decide (r.2.1=0) else !hasS a r.2.1)||(bif decide (r.1=2) then !decide (r.2.2.1=0) else !hasS b r.2.2.1)
def textE(r:Rule):Bool:=(!decide (r.2.2.2.1=bs [])&& !decide (r.1=3))||(decide (0<(r.2.2.2.2.1.length:Int))&& !decide (r.1=5))
def padS(s:Spec):Bool:=decide (s.2.1=1)&&decide (s.2.2.1=1)
def valsC:List Pair→Spec→Spec→Int
 | [],_,_=>0
 |p::r,x,y=>bif !decide (valC x p.1=0) then valC x p.1 else bif !decide (valC y p.2.1=0) then valC y p.2.1 else valsC r x y
def zkj(l:List Pair)(x y:Spec):Int:=bif(!decide ((z88 l).1=0)||decide ((l.length:Int)=0)) then 15 else valsC l x y
def kindC(r:Rule)(x y:Spec):Int:=
 bif decide (r.1=1) then(bif widS y x then 0 else 6) else bif decide (r.1=3) then valC y r.2.2.2.1 else bif decide (r.1=4) then(bif padS x&&padS y then 0 else 6) else bif decide (r.1=5) then zkj r.2.2.2.2.1 x y else 0
def ruleC(r:Rule)(a b:zf):Int:=
 bif decide (r.1<1)||decide (5<r.1) then 1 else bif endsE r a b then 9 else bif textE r then 3 else kindC r (getS a r.2.1) (getS b r.2.2.1)
structure PairsOk(l:List Pair):Prop where
 len:l.length≤1000000
 sz:∀p∈l,p.1.size≤1099511627776∧p.2.1.size≤1099511627776
structure RuleOk(r:Rule):Prop where
 text:r.2.2.2.1.size≤1099511627776
 pairs:PairsOk r.2.2.2.2.1
theorem z1yp(r:Rule)(a b:zf)(ha:a.2.2.1.length≤maxLen)(hb:b.2.2.1.length≤maxLen):Q218 r a b=some (getS a r.2.1,getS b r.2.2.1,bif endsE r a b then 9 else 0):=by
 unfold Q218 zor endsE
 rw[z3v a _ ha,z3v b _ hb]
 simp only[Option.bind_some]
 generalize decide (r.1=3)=k3
 generalize decide (r.1=2)=k2
 generalize decide (r.2.1=0)=z1
 generalize decide (r.2.2.1=0)=z2
 generalize hasS a r.2.1=h1
 generalize hasS b r.2.2.1=h2
 cases k3<;>cases k2<;>cases z1<;>cases z2<;>cases h1<;>cases h2<;>rfl
theorem z1ny(s:Spec):Q219 s=some (padS s):=by
 unfold Q219 zos padS
 generalize decide (s.2.1=1)=c1
 generalize decide (s.2.2.1=1)=c2
 cases c1<;>cases c2<;>rfl
def vres(v:Int):Sum Int Unit:=if v=0 then .inr () else .inl v
theorem z175(x y:Spec):∀(l:List Pair) (i:Int),(∀p∈l,p.1.size≤1099511627776∧p.2.1.size≤1099511627776)→
 runI (fun i (p:Pair) (s:Unit) K=>((Q229 x p.1).bind fun r2=>(bif(!decide (r2=0)) then some (Sum.inl r2) else((Q229 y p.2.1).bind fun r3=>(bif(!decide (r3=0)) then some (Sum.inl r3) else K s))))) (fun _=>some (Sum.inr ())) l i ()=some (vres (valsC l x y))
 | [],i,_=>rfl
 |p::r,i,h=>by
  obtain⟨h1,h2⟩:=h p List.mem_cons_self
  simp only[runI,valsC]
  rw[z2r x p.1 h1,Option.bind_some]
  by_cases z1:valC x p.1=0
  ·rw[zT z1]
   simp only[Bool.not_true,zD]
   rw[z2r y p.2.1 h2,Option.bind_some]
   by_cases z2:valC y p.2.1=0
   ·rw[zT z2]
    simp only[Bool.not_true,zD]
    exact z175 x y r (i+1) fun q hq=>h q (List.mem_cons_of_mem _ hq)
   ·rw[zF z2]
    simp only[Bool.not_false,zC,vres,if_neg z2]
  ·rw[zF z1]
   simp only[Bool.not_false,zC,vres,if_neg z1]
theorem z1uv(l:List Pair)(x y:Spec)(h:PairsOk l):Q220 l x y=some (zkj l x y):=by
 have hl:=h.len
 unfold Q220 zou zkj
 dsimp only
 rw[z17p l (by rw[zj];omega),Option.bind_some]
 cases(!decide ((z88 l).1=0)) with
 |true=>rfl
 |false=>
  cases decide ((l.length:Int)=0) with
  |true=>rfl
  |false=>
   simp only[zD,Bool.or_false]
   have:=loopI pair0 l (by rw[zj];omega) (fun i (p:Pair) (s:Unit) K=>((Q229 x p.1).bind fun r2=>(bif(!decide (r2=0)) then some (Sum.inl r2) else((Q229 y p.2.1).bind fun r3=>(bif(!decide (r3=0)) then some (Sum.inl r3) else K s))))) (fun _=>some (Sum.inr ()))
    (fun k i s=>zcm k l (l.length:Int) i x y) (fun k i s=>rfl) ()
   rw[this,z175 x y l 0 h.sz,Option.bind_some]
   unfold vres
   by_cases z:valsC l x y=0
   ·rw[if_pos z,z];rfl
   ·rw[if_neg z];rfl
theorem z1ck(r:Rule)(a b:zf)(h:RuleOk r)(ha:a.2.2.1.length≤maxLen)(hb:b.2.2.1.length≤maxLen):Q217 r a b=some (ruleC r a b):=by
 unfold Q217 zoq ruleC kindC textE
 rw[z1yp r a b ha hb]
 simp only[Option.bind_some,z1lv,z2r _ _ h.text,z1ny,z1uv _ _ _ h.pairs]
 generalize endsE r a b=e
 generalize decide (r.1<1)=c1
 generalize decide ((5:Int)<r.1)=c2
 generalize decide (r.2.2.2.1=bs [])=t
 generalize decide ((0:Int)<(r.2.2.2.2.1.length:Int))=p
 generalize decide (r.1=1)=k1
 generalize decide (r.1=3)=k3
 generalize decide (r.1=4)=k4
 generalize decide (r.1=5)=k5
 generalize padS (getS a r.2.1)=p1
 generalize padS (getS b r.2.2.1)=p2
 generalize widS (getS b r.2.2.1) (getS a r.2.1)=w
 cases c1<;>cases c2<;>first|rfl|skip
 cases e<;>first|rfl|skip
 cases t<;>cases p<;>cases k3<;>cases k5<;>first|rfl|skip
 all_goals(cases k1<;>cases k4<;>cases p1<;>cases p2<;>cases w<;>rfl)
end Groat

namespace Groat
open Go.IntKind renaming wrap→zW,i64→zI,u8→zU
open Go Go.Ref
def vres'(v:Int):Sum Unit Int:=if v=0 then .inl () else .inr v
theorem zz7(x y:Spec):∀(l:List Pair) (i:Int),(∀p∈l,p.1.size≤1099511627776∧p.2.1.size≤1099511627776)→
 runI (fun i (p:Pair) (s:Unit) K=>((Q101 x p.1).bind fun r2=>(bif(!decide (r2=0)) then some (Sum.inr r2) else((Q101 y p.2.1).bind fun r3=>(bif(!decide (r3=0)) then some (Sum.inr r3) else K s))))) (fun _=>some (Sum.inl ())) l i ()=some (vres' (valsC l x y))
 | [],i,_=>rfl
 |p::r,i,h=>by
  obtain⟨h1,h2⟩:=h p List.mem_cons_self
  simp only[runI,valsC]
  rw[z27 x p.1 h1,Option.bind_some]
  by_cases z1:valC x p.1=0
  ·rw[zT z1]
   simp only[Bool.not_true,zD]
   rw[z27 y p.2.1 h2,Option.bind_some]
   by_cases z2:valC y p.2.1=0
   ·rw[zT z2]
    simp only[Bool.not_true,zD]
    exact zz7 x y r (i+1) fun q hq=>h q (List.mem_cons_of_mem _ hq)
   ·rw[zF z2]
    simp only[Bool.not_false,zC,vres',if_neg z2]
  ·rw[zF z1]
   simp only[Bool.not_false,zC,vres',if_neg z1]
theorem z1az(r:Rule)(a b:zf)(h:RuleOk r)(i k:Int)(hi0:0≤i)(hi:i<a.2.2.1.length)(hk0:0≤k)(hk:k<b.2.2.1.length):
 z49 FUEL i k 0 r a b=some (vres' (valsC r.2.2.2.2.1 (a.2.2.1.getD i.toNat spec0) (b.2.2.1.getD k.toNat spec0))):=by
 have hl:=h.pairs.len
 have:=loopJ pair0 r.2.2.2.2.1 (by rw[zj];omega) (fun j (p:Pair) (s:Unit) K=>((Q101 (a.2.2.1.getD i.toNat spec0) p.1).bind fun r2=>(bif(!decide (r2=0)) then some (Sum.inr r2) else((Q101 (b.2.2.1.getD k.toNat spec0) p.2.1).bind fun r3=>(bif(!decide (r3=0)) then some (Sum.inr r3) else K s))))) (fun _=>some (Sum.inl ()))
  (fun f j s=>z49 f i k j r a b) (fun f j s h0 h1=>by
    show z49 (f+1) i k j r a b=_
    conv=>lhs;unfold z49 z9l zdw zdx zdy
    have wi:∀{R:Type} (x:Option R),zd i a.2.2.1.length x=x:=fun x=>zl hi0 hi
    have wk:∀{R:Type} (x:Option R),zd k b.2.2.1.length x=x:=fun x=>zl hk0 hk
    have wj:∀{R:Type} (x:Option R),zd j r.2.2.2.2.1.length x=x:=fun x=>zl h0 h1
    rw[zT h1]
    simp only[zC,wi,wk,wj]
    rfl) (fun f s=>by
    show z49 (f+1) i k r.2.2.2.2.1.length r a b=_
    conv=>lhs;unfold z49 z9l
    rw[zF (by omega),zD]) ()
 rw[this]
 exact zz7 _ _ _ 0 h.pairs.sz
theorem z1gb(r:Rule)(a b:zf)(h:RuleOk r)(ha:a.2.2.1.length≤maxLen)(hb:b.2.2.1.length≤maxLen):Q132 r a b=some (ruleC r a b):=by
 unfold Q132 z8y
 have h0:∀t,z10e t r a b=bif t then some 1 else zm0 r a b:=fun t=>by cases t<;>rfl
 simp only[h0]
 unfold ruleC
 by_cases c1:r.1<1
 ·rw[zT c1];rfl
 by_cases c2:(5:Int)<r.1
 ·rw[zF c1,zT c2];rfl
 rw[zF c1,zF c2]
 simp only[zD,Bool.or_false]
 have e2:∀i k t,z5x i k t r a b=bif t then some 9 else zbr i k r a b:=fun i k t=>by cases t<;>rfl
 have e4:∀i k t,z10f i k t r a b=bif t then some 9 else z6x i k r a b:=fun i k t=>by cases t<;>rfl
 have e6:∀i k t,z10g i k t r a b=bif t then some 3 else zbs i k r a b:=fun i k t=>by cases t<;>rfl
 have e9:∀t,z10h t=some (bif t then 6 else 0):=fun t=>by cases t<;>rfl
 have hi:=z3u a r.2.1
 have hk:=z3u b r.2.2.1
 have ei:decide (idxS a.2.2.1 r.2.1 0<0)= !hasS a r.2.1:=by
  rcases hi with⟨h1,h2,_⟩|⟨h1,_,h2,_⟩
  ·rw[h1,h2];rfl
  ·rw[h2,zF (by omega)];rfl
 have ek:decide (idxS b.2.2.1 r.2.2.1 0<0)= !hasS b r.2.2.1:=by
  rcases hk with⟨h1,h2,_⟩|⟨h1,_,h2,_⟩
  ·rw[h1,h2];rfl
  ·rw[h2,zF (by omega)];rfl
 unfold zm0 z8z
 rw[z3t a _ ha,Option.bind_some,z3t b _ hb,Option.bind_some]
 generalize hii:idxS a.2.2.1 r.2.1 0=i at*
 generalize hkk:idxS b.2.2.1 r.2.2.1 0=k at*
 have s3:zbr i k r a b=bif(bif decide (r.1=2) then !decide (r.2.2.1=0) else !hasS b r.2.2.1) then some 9 else z6x i k r a b:=by
  unfold zbr z90
  simp only[e4,ek]
  generalize decide (r.1=2)=k2
  generalize decide (r.2.2.1=0)=z
  generalize hasS b r.2.2.1=hh
  cases k2<;>cases z<;>cases hh<;>rfl
 have s1:(bif decide (r.1=3) then bif !decide (r.2.1=0) then z5x i k true r a b else bif !decide (r.1=3) then z5x i k (decide (i<0)) r a b else z5x i k false r a b
  else bif !decide (r.1=3) then z5x i k (decide (i<0)) r a b else z5x i k false r a b)=bif endsE r a b then some 9 else z6x i k r a b:=by
  simp only[e2,s3,ei]
  unfold endsE
  generalize decide (r.1=3)=k3
  generalize decide (r.2.1=0)=z
  generalize hasS a r.2.1=hh
  generalize(bif decide (r.1=2) then !decide (r.2.2.1=0) else !hasS b r.2.2.1)=w
  cases k3<;>cases z<;>cases hh<;>cases w<;>rfl
 have s5:z6x i k r a b=bif textE r then some 3 else zbs i k r a b:=by
  unfold z6x z91 textE
  simp only[e6]
  generalize decide (r.2.2.2.1=bs [])=t
  generalize decide ((0:Int)<(r.2.2.2.2.1.length:Int))=p
  generalize decide (r.1=3)=k3
  generalize decide (r.1=5)=k5
  cases t<;>cases p<;>cases k3<;>cases k5<;>rfl
 refine Eq.trans s1 ?_
 cases hE:endsE r a b with
 |true=>rfl
 |false=>
  rw[zD,zD,s5]
  cases textE r with
  |true=>rfl
  |false=>
   rw[zD,zD]
   unfold zbs z92 kindC
   have g1:r.1=1∨r.1=4∨r.1=5→hasS a r.2.1=true:=fun hr=>by
    unfold endsE at hE
    rw[zF (by omega:¬r.1=3)] at hE
    cases hh:hasS a r.2.1 with
    |true=>rfl
    |false=>rw[hh] at hE;simp at hE
   have g2:r.1≠2→hasS b r.2.2.1=true:=fun hr=>by
    unfold endsE at hE
    rw[zF hr] at hE
    cases hh:hasS b r.2.2.1 with
    |true=>rfl
    |false=>rw[hh] at hE;simp at hE
   have hA:hasS a r.2.1=true→0≤i∧i<a.2.2.1.length∧a.2.2.1.getD i.toNat spec0=getS a r.2.1:=fun hh=>by
    rcases hi with⟨_,h2,_⟩|⟨h1,h2,_,h3⟩
    ·rw[h2] at hh;cases hh
    ·exact⟨h1,h2,h3⟩
   have hB:hasS b r.2.2.1=true→0≤k∧k<b.2.2.1.length∧b.2.2.1.getD k.toNat spec0=getS b r.2.2.1:=fun hh=>by
    rcases hk with⟨_,h2,_⟩|⟨h1,h2,_,h3⟩
    ·rw[h2] at hh;cases hh
    ·exact⟨h1,h2,h3⟩
   by_cases k1:r.1=1
   ·obtain⟨a1,a2,a3⟩:=hA (g1 (.inl k1))
    obtain⟨b1,b2,b3⟩:=hB (g2 (by omega))
    rw[zT k1,zC,zC,zl b1 b2,zl a1 a2,a3,b3,ze2,Option.bind_some]
    cases widS (getS b r.2.2.1) (getS a r.2.1)<;>rfl
   rw[zF k1,zD,zD]
   by_cases k3:r.1=3
   ·obtain⟨b1,b2,b3⟩:=hB (g2 (by omega))
    rw[zT k3,zC,zC,zl b1 b2,b3,z27 _ _ h.text];rfl
   rw[zF k3,zD,zD]
   by_cases k4:r.1=4
   ·obtain⟨a1,a2,a3⟩:=hA (g1 (.inr (.inl k4)))
    obtain⟨b1,b2,b3⟩:=hB (g2 (by omega))
    rw[zT k4,zC,zC,zl a1 a2,zl b1 b2]
    simp only[a3,b3,e9]
    unfold padS
    generalize decide ((getS a r.2.1).2.1=1)=d1
    generalize decide ((getS a r.2.1).2.2.1=1)=d2
    generalize decide ((getS b r.2.2.1).2.1=1)=d3
    generalize decide ((getS b r.2.2.1).2.2.1=1)=d4
    cases d1<;>cases d2<;>cases d3<;>cases d4<;>rfl
   rw[zF k4,zD,zD]
   by_cases k5:r.1=5
   ·obtain⟨a1,a2,a3⟩:=hA (g1 (.inr (.inr k5)))
    obtain⟨b1,b2,b3⟩:=hB (g2 (by omega))
    have e10:∀t,zrw i k t r a b=bif t then some 15 else z9k i k r a b:=fun t=>by cases t<;>rfl
    have e11:z9k i k r a b=some (valsC r.2.2.2.2.1 (getS a r.2.1) (getS b r.2.2.1)):=by
     unfold z9k zdv
     dsimp only
     rw[z1az r a b h i k a1 a2 b1 b2,Option.bind_some,a3,b3]
     unfold vres'
     by_cases z:valsC r.2.2.2.2.1 (getS a r.2.1) (getS b r.2.2.1)=0
     ·rw[if_pos z,z];rfl
     ·rw[if_neg z];rfl
    have hl:=h.pairs.len
    rw[zT k5,zC,zC,z1ga _ (by rw[zj];omega),Option.bind_some]
    simp only[e10,e11]
    unfold zkj
    generalize(!decide ((z88 r.2.2.2.2.1).1=0))=d1
    generalize decide ((r.2.2.2.2.1.length:Int)=0)=d2
    cases d1<;>cases d2<;>rfl
   ·rw[zF k5];rfl
end Groat

namespace Groat
open Go.IntKind renaming wrap→zW,i64→zI,u8→zU
open Go Go.Ref
@[irreducible] def tlvE (x:ByteArray):Int:=((Q98 x).map fun r=>Sum.elim (fun(w:Zt13×Int×Int)=>w.2.1) (fun(w:Zt13×Int×Int)=>w.2.1) r).getD 0
theorem z7o(s:Spec)(x:ByteArray)(hx:x.size≤1099511627776):valC s x=0↔specC s=0∧s.2.2.2.1≤(x.size:Int)∧(x.size:Int)≤s.2.2.2.2.1∧(bl x).all (isC s.2.1)=true∧(s.2.1=6→tlvE x=0):=by
 have h:=z27 s x hx
 unfold Q101 z8o at h
 rw[z1k,Option.bind_some,zdr _ _ (by rw[zj];omega),Option.bind_some] at h
 obtain⟨r,hr⟩:=zrp x hx
 have ht:tlvE x=Sum.elim (fun(w:Zt13×Int×Int)=>w.2.1) (fun(w:Zt13×Int×Int)=>w.2.1) r:=by unfold tlvE;rw[hr];rfl
 rw[hr,Option.bind_some] at h
 by_cases c1:specC s=0
 ·rw[zT c1,Bool.not_true,zD] at h
  by_cases c2:(x.size:Int)<s.2.2.2.1
  ·rw[zT c2,zC] at h
   have:=Option.some.inj h
   exact⟨fun e=>by omega,fun e=>by omega⟩
  rw[zF c2,zD] at h
  by_cases c3:s.2.2.2.2.1<(x.size:Int)
  ·rw[zT c3,zC] at h
   have:=Option.some.inj h
   exact⟨fun e=>by omega,fun e=>by omega⟩
  rw[zF c3,zD] at h
  have hf:=zr6 s.2.1 (bl x) 0 (Int.le_refl _)
  by_cases c4:(0:Int)≤z39 s.2.1 (bl x) 0
  ·rw[zT c4,zC] at h
   have:=Option.some.inj h
   exact⟨fun e=>by omega,fun e=>absurd e.2.2.2.1 (hf.1 c4)⟩
  rw[zF c4,zD] at h
  have hall:(bl x).all (isC s.2.1)=true:=by
   cases hq:(bl x).all (isC s.2.1) with
   |true=>rfl
   |false=>exact absurd (hf.2 (by rw[hq];decide)) c4
  by_cases c5:s.2.1=6
  ·rw[zT c5,zC] at h
   have key:(bif(!decide (tlvE x=0)) then some (13:Int) else some 0)=some (valC s x):=by
    rw[←h]
    cases r with
    |inl r=>rw[Sum.elim_inl] at ht⊢;rw[←ht]
    |inr r=>rw[Sum.elim_inr] at ht⊢;rw[←ht]
   by_cases c6:tlvE x=0
   ·rw[zT c6] at key
    have:=Option.some.inj key
    exact⟨fun _=>⟨c1,by omega,by omega,hall,fun _=>c6⟩,fun _=>this.symm⟩
   ·rw[zF c6] at key
    have:=Option.some.inj key
    exact⟨fun e=>by omega,fun e=>absurd (e.2.2.2.2 c5) c6⟩
  ·rw[zF c5,zD] at h
   have:=Option.some.inj h
   exact⟨fun _=>⟨c1,by omega,by omega,hall,fun e=>absurd e c5⟩,fun _=>this.symm⟩
 ·rw[zF c1,Bool.not_false,zC] at h
  have:=Option.some.inj h
  exact⟨fun e=>by omega,fun e=>absurd e.1 c1⟩
theorem z1v4(a b:Spec):widS a b=true↔specC a=0∧specC b=0∧a.2.2.2.1≤b.2.2.2.1∧b.2.2.2.2.1≤a.2.2.2.2.1∧(a.2.1=5∨(a.2.1=6∧b.2.1=6)∨(a.2.1≠5∧a.2.1≠6∧b.2.1≠6∧z6m a.2.1 b.2.1=true)):=by
 have h:=ze2 a b
 unfold Q102 z8p at h
 rw[z1k,z1k,ze1] at h
 simp only[Option.bind_some] at h
 by_cases c1:specC a=0
 ·rw[zT c1,Bool.not_true,zD] at h
  by_cases c2:specC b=0
  ·rw[zT c2,Bool.not_true,zD] at h
   by_cases c3:b.2.2.2.1<a.2.2.2.1
   ·rw[zT c3,zC] at h
    have:=Option.some.inj h
    exact⟨fun e=>(by rw[e] at this;cases this),fun e=>by omega⟩
   rw[zF c3,zD] at h
   by_cases c4:a.2.2.2.2.1<b.2.2.2.2.1
   ·rw[zT c4,zC] at h
    have:=Option.some.inj h
    exact⟨fun e=>(by rw[e] at this;cases this),fun e=>by omega⟩
   rw[zF c4,zD] at h
   by_cases c5:a.2.1=5
   ·rw[zT c5,zC] at h
    have:=Option.some.inj h
    exact⟨fun _=>⟨c1,c2,by omega,by omega,.inl c5⟩,fun _=>this.symm⟩
   rw[zF c5,zD] at h
   by_cases c6:a.2.1=6
   ·rw[zT c6,zC] at h
    have:=Option.some.inj h
    rw[←this,decide_eq_true_eq]
    exact⟨fun e=>⟨c1,c2,by omega,by omega,.inr (.inl ⟨c6,by omega⟩)⟩,fun e=>by omega⟩
   rw[zF c6,zD] at h
   by_cases c7:b.2.1=6
   ·rw[zT c7,zC] at h
    have:=Option.some.inj h
    rw[←this,decide_eq_true_eq]
    exact⟨fun e=>by omega,fun e=>by omega⟩
   rw[zF c7,zD] at h
   have:=Option.some.inj h
   rw[←this]
   refine⟨fun e=>⟨c1,c2,by omega,by omega,.inr (.inr ⟨c5,c6,c7,e⟩)⟩,fun e=> ?_⟩
   rcases e.2.2.2.2 with e|e|e
   ·exact absurd e c5
   ·exact absurd e.1 c6
   ·exact e.2.2.2
  ·rw[zF c2,Bool.not_false,zC] at h
   have:=Option.some.inj h
   exact⟨fun e=>(by rw[e] at this;cases this),fun e=>absurd e.2.1 c2⟩
 ·rw[zF c1,Bool.not_false,zC] at h
  have:=Option.some.inj h
  exact⟨fun e=>(by rw[e] at this;cases this),fun e=>absurd e.1 c1⟩
theorem zrm{s:Spec}(h:specC s=0):(2≤s.1∧s.1≤128)∧(1≤s.2.1∧s.2.1≤6)∧(1≤s.2.2.1∧s.2.2.1≤3)∧(1≤s.2.2.2.1∧s.2.2.2.1≤s.2.2.2.2.1∧s.2.2.2.2.1≤999)∧(s.2.2.1=1→s.2.2.2.1=s.2.2.2.2.1)∧¬(s.2.2.1=1∧s.2.1=6):=by
 unfold specC at h
 split at h
 ·omega
 split at h
 ·omega
 split at h
 ·omega
 split at h
 ·omega
 split at h
 ·omega
 ·omega
theorem z1zc:∀a b:Fin 7,z6m (a.1:Int) (b.1:Int)=true→a.1≠5→a.1≠6→b.1≠6→(a.1=b.1∨(a.1=3∧(b.1=1∨b.1=2))∨(a.1=4∧(b.1=1∨b.1=2∨b.1=3))):=by decide+kernel
theorem z1oz{a b:Int}(h:z6m a b=true)(h5:a≠5)(h6:a≠6)(h7:b≠6):a=b∨(a=3∧(b=1∨b=2))∨(a=4∧(b=1∨b=2∨b=3)):=by
 have hr:1≤a∧a≤6∧1≤b∧b≤6:=by
  unfold z6m at h
  rw[Bool.and_eq_true,decide_eq_true_eq] at h
  exact h.1
 obtain⟨x,rfl⟩:=zyk ⟨hr.1,hr.2.1⟩
 obtain⟨y,rfl⟩:=zyk ⟨hr.2.2.1,hr.2.2.2⟩
 have:=z1zc x y h (by omega) (by omega) (by omega)
 omega
theorem z1u8{a b x:Int}(h:a=b∨(a=3∧(b=1∨b=2))∨(a=4∧(b=1∨b=2∨b=3)))(hx:isC b x=true):isC a x=true:=by
 rcases h with rfl|⟨rfl,rfl|rfl⟩|⟨rfl,rfl|rfl|rfl⟩
 ·exact hx
 all_goals
  simp [isC] at hx⊢
  omega
theorem z1u7(x:Int):isC 5 x=true:=by simp [isC]
theorem z1hr{y x:Spec}{t:ByteArray}(ht:t.size≤1099511627776)(hw:widS y x=true)(hv:valC x t=0):valC y t=0:=by
 obtain⟨w1,w2,w3,w4,w5⟩:=(z1v4 y x).1 hw
 obtain⟨v1,v2,v3,v4,v5⟩:=(z7o x t ht).1 hv
 refine(z7o y t ht).2 ⟨w1,by omega,by omega,?_,?_⟩
 ·rcases w5 with e|e|e
  ·rw[e,List.all_eq_true];exact fun b _=>z1u7 b
  ·rw[e.1,←e.2];exact v4
  ·rw[List.all_eq_true] at v4⊢
   exact fun b hb=>z1u8 (z1oz e.2.2.2 e.1 e.2.1 e.2.2.1) (v4 b hb)
 ·intro e6
  rcases w5 with e|e|e
  ·omega
  ·exact v5 e.2
  ·exact absurd e6 e.2.1
theorem z1yv:isC 1=isDig:=by funext b;simp [isC,isDig]
theorem z1y7(l:List Int):l.all (isC 1)=allD l:=by rw[z1yv];rfl
theorem z1fs{t:ByteArray}{w:Int}(h:(padD t w).2=true):1≤w∧w≤999∧(((padD t w).1).size:Int)=w∧allD (bl (padD t w).1)=true:=by
 by_cases hc:1≤t.size∧t.size≤999∧allD (bl t)=true∧1≤w∧w≤999
 ·rw[z1ce hc] at h⊢
  by_cases h4:(t.size:Int)≤w
  ·rw[zT h4,zC]
   have hd:allD (List.replicate (w-t.size).toNat 48++bl t)=true:=by
    have e:allD (List.replicate (w-t.size).toNat 48++bl t)=(allD (List.replicate (w-t.size).toNat 48)&&allD (bl t)):=List.all_append ..
    have e2:allD (List.replicate (w-t.size).toNat 48)=true:=by
     rw[allD,List.all_eq_true]
     intro x hx
     rw[(List.mem_replicate.1 hx).2];rfl
    rw[e,e2,hc.2.2.1];rfl
   refine⟨hc.2.2.2.1,hc.2.2.2.2,?_,?_⟩
   ·rw[z1d,List.length_append,List.length_replicate,zg];omega
   ·rw[z2j (z1b2 hd)];exact hd
  ·rw[zF h4,zD] at h⊢
   cases hz:allZ ((bl t).take (t.size-w.toNat)) with
   |false=>rw[hz] at h;cases h
   |true=>
    rw[zC]
    have hd:allD ((bl t).drop (t.size-w.toNat))=true:=by
     rw[allD,List.all_eq_true]
     intro x hx
     exact List.all_eq_true.1 hc.2.2.1 x (List.mem_of_mem_drop hx)
    refine⟨hc.2.2.2.1,hc.2.2.2.2,?_,?_⟩
    ·rw[z1d,List.length_drop,zg];omega
    ·rw[z2j (z1b2 hd)];exact hd
 ·rw[z4l hc] at h;cases h
theorem z1hh{s:Spec}(h:padS s=true):s.2.1=1∧s.2.2.1=1:=by
 unfold padS at h
 rw[Bool.and_eq_true,decide_eq_true_eq,decide_eq_true_eq] at h
 exact h
abbrev val0:Val:=(0,bs [],())
def zy(r:Rule)(b:zf)(t:ByteArray):Val×Int:=
 bif decide (r.1=1) then((r.2.2.1,t,()),0) else bif decide (r.1=2) then(val0,0) else bif decide (r.1=3) then((r.2.2.1,r.2.2.2.1,()),0)
 else bif decide (r.1=4) then(bif !hasS b r.2.2.1 then(val0,9) else bif !(padD t (getS b r.2.2.1).2.2.2.1).2 then(val0,5) else((r.2.2.1,(padD t (getS b r.2.2.1).2.2.2.1).1,()),0))
 else bif decide (r.1=5) then(bif !(zp r.2.2.2.2.1 t).2 then(val0,15) else((r.2.2.1,(zp r.2.2.2.2.1 t).1,()),0)) else(val0,1)
theorem z1cj(r:Rule)(b:zf)(t:ByteArray)(hp:r.2.2.2.2.1.length≤maxLen)(hb:b.2.2.1.length≤maxLen)(ht:t.size≤maxLen):Q216 r b t=some (zy r b t):=by
 unfold Q216 zop zy
 rw[z3v b _ hb,Option.bind_some,z1ze t _ ht,Option.bind_some,z17o _ _ hp,Option.bind_some]
 generalize decide (r.1=1)=k1
 generalize decide (r.1=2)=k2
 generalize decide (r.1=3)=k3
 generalize decide (r.1=4)=k4
 generalize decide (r.1=5)=k5
 generalize hasS b r.2.2.1=h
 generalize padD t (getS b r.2.2.1).2.2.2.1=p
 generalize zp r.2.2.2.2.1 t=q
 obtain⟨p1,p2⟩:=p
 obtain⟨q1,q2⟩:=q
 cases k1<;>cases k2<;>cases k3<;>cases k4<;>cases k5<;>cases h<;>cases p2<;>cases q2<;>rfl
theorem zem{s:zf}{no:Int}(h:hasS s no=true):getS s no∈s.2.2.1∧(getS s no).1=no:=by
 unfold hasS at h
 unfold getS
 cases hf:findS s.2.2.1 no with
 |none=>rw[hf] at h;cases h
 |some x=>
  unfold findS at hf
  exact⟨List.mem_of_find?_eq_some hf,by simpa using List.find?_some hf⟩
theorem zay{s:zf}(h:Okay s){no:Int}(hh:hasS s no=true):specC (getS s no)=0:=h.2.2.2.1 _ (zem hh).1
theorem ze5{l:List Pair}{t:ByteArray}(h:(zp l t).2=true):∃p∈l,p.1=t∧(zp l t).1=p.2.1:=by
 unfold zp at h⊢
 cases hf:l.find? fun p=>decide (p.1=t) with
 |none=>rw[hf] at h;cases h
 |some p=>exact⟨p,List.mem_of_find?_eq_some hf,by simpa using List.find?_some hf,rfl⟩
theorem z17e:∀{l:List Pair} {x y:Spec},valsC l x y=0→∀p∈l,valC x p.1=0∧valC y p.2.1=0
 | [],x,y,h,p,hp=>by cases hp
 |q::l,x,y,h,p,hp=>by
  unfold valsC at h
  by_cases h1:valC x q.1=0
  ·rw[zT h1,Bool.not_true,zD] at h
   by_cases h2:valC y q.2.1=0
   ·rw[zT h2,Bool.not_true,zD] at h
    rcases List.mem_cons.1 hp with rfl|hp
    ·exact⟨h1,h2⟩
    ·exact z17e h p hp
   ·rw[zF h2,Bool.not_false,zC] at h;exact absurd h h2
  ·rw[zF h1,Bool.not_false,zC] at h;exact absurd h h1
theorem z8j{r:Rule}{a b:zf}(h:ruleC r a b=0):(1≤r.1∧r.1≤5)∧endsE r a b=false∧textE r=false∧kindC r (getS a r.2.1) (getS b r.2.2.1)=0:=by
 unfold ruleC at h
 by_cases c1:r.1<1
 ·rw[zT c1] at h;cases h
 by_cases c2:5<r.1
 ·rw[zT c2,Bool.or_true] at h;cases h
 rw[zF c1,zF c2,Bool.or_false,zD] at h
 cases he:endsE r a b with
 |true=>rw[he] at h;cases h
 |false=>
  rw[he,zD] at h
  cases ht:textE r with
  |true=>rw[ht] at h;cases h
  |false=>rw[ht,zD] at h;exact⟨by omega,rfl,rfl,h⟩
theorem zjl{r:Rule}{a b:zf}(h:endsE r a b=false):(r.1=3→r.2.1=0)∧(r.1≠3→hasS a r.2.1=true)∧(r.1=2→r.2.2.1=0)∧(r.1≠2→hasS b r.2.2.1=true):=by
 unfold endsE at h
 rw[Bool.or_eq_false_iff] at h
 obtain⟨h1,h2⟩:=h
 refine⟨fun e=> ?_,fun e=> ?_,fun e=> ?_,fun e=> ?_⟩
 ·rw[zT e,zC] at h1;simpa using h1
 ·rw[zF e,zD] at h1;simpa using h1
 ·rw[zT e,zC] at h2;simpa using h2
 ·rw[zF e,zD] at h2;simpa using h2
theorem z1dg{r:Rule}{a b:zf}{t:ByteArray}(ht:t.size≤1099511627776)(hr:RuleOk r)(hc:ruleC r a b=0)(hb:Okay b)(hv:hasS a r.2.1=true→valC (getS a r.2.1) t=0):
 ((zy r b t).2≠0→((r.1=4∧(zy r b t).2=5)∨(r.1=5∧(zy r b t).2=15))∧(zy r b t).1=val0)∧
 ((zy r b t).2=0→(r.1=2→(zy r b t).1=val0)∧(r.1≠2→(zy r b t).1.1=r.2.2.1∧hasS b r.2.2.1=true∧valC (getS b r.2.2.1) (zy r b t).1.2.1=0)):=by
 obtain⟨c1,c2,c3,c4⟩:=z8j hc
 obtain⟨e1,e2,e3,e4⟩:=zjl c2
 unfold kindC at c4
 have hk:r.1=1∨r.1=2∨r.1=3∨r.1=4∨r.1=5:=by omega
 unfold zy
 rcases hk with k|k|k|k|k
 ·rw[zT k,zC] at c4⊢
  refine⟨fun h=>absurd rfl h,fun _=>⟨fun e=>by omega,fun _=>⟨rfl,e4 (by omega),?_⟩⟩⟩
  cases hw:widS (getS b r.2.2.1) (getS a r.2.1) with
  |false=>rw[hw] at c4;cases c4
  |true=>exact z1hr ht hw (hv (e2 (by omega)))
 ·rw[zF (by omega:¬r.1=1),zT k,zD,zC]
  exact⟨fun h=>absurd rfl h,fun _=>⟨fun _=>rfl,fun e=>absurd k e⟩⟩
 ·rw[zF (by omega:¬r.1=1),zT k,zD,zC] at c4
  rw[zF (by omega:¬r.1=1),zF (by omega:¬r.1=2),zT k,zD,zD,zC]
  exact⟨fun h=>absurd rfl h,fun _=>⟨fun e=>by omega,fun _=>⟨rfl,e4 (by omega),c4⟩⟩⟩
 ·rw[zF (by omega:¬r.1=1),zF (by omega:¬r.1=3),zT k,zD,zD,zC] at c4
  rw[zF (by omega:¬r.1=1),zF (by omega:¬r.1=2),zF (by omega:¬r.1=3),zT k,zD,zD,zD,zC,e4 (by omega),Bool.not_true,zD]
  have hy:=zay hb (e4 (by omega))
  have hpd:padS (getS b r.2.2.1)=true:=by
   cases hp:(padS (getS a r.2.1)&&padS (getS b r.2.2.1)) with
   |false=>rw[hp] at c4;cases c4
   |true=>exact(Bool.and_eq_true_iff.1 hp).2
  obtain⟨y1,y2⟩:=z1hh hpd
  obtain⟨_,_,_,f4,f5,_⟩:=zrm hy
  cases hp:(padD t (getS b r.2.2.1).2.2.2.1).2 with
  |false=>exact⟨fun _=>⟨.inl ⟨k,rfl⟩,rfl⟩,fun e=>by cases e⟩
  |true=>
   obtain⟨p1,p2,p3,p4⟩:=z1fs hp
   rw[Bool.not_true,zD]
   refine⟨fun h=>absurd rfl h,fun _=>⟨fun e=>by omega,fun _=>⟨rfl,rfl,?_⟩⟩⟩
   have:=f5 y2
   refine(z7o _ _ (by show(padD t (getS b r.2.2.1).2.2.2.1).1.size≤1099511627776;omega)).2 ⟨hy,?_,?_,?_,fun e=>by omega⟩
   ·show _≤((padD t (getS b r.2.2.1).2.2.2.1).1.size:Int);omega
   ·show((padD t (getS b r.2.2.1).2.2.2.1).1.size:Int)≤_;omega
   ·rw[y1,z1y7];exact p4
 ·rw[zF (by omega:¬r.1=1),zF (by omega:¬r.1=3),zF (by omega:¬r.1=4),zT k,zD,zD,zD,zC] at c4
  rw[zF (by omega:¬r.1=1),zF (by omega:¬r.1=2),zF (by omega:¬r.1=3),zF (by omega:¬r.1=4),zT k,zD,zD,zD,zD,zC]
  unfold zkj at c4
  cases hp:(zp r.2.2.2.2.1 t).2 with
  |false=>exact⟨fun _=>⟨.inr ⟨k,rfl⟩,rfl⟩,fun e=>by cases e⟩
  |true=>
   rw[Bool.not_true,zD]
   refine⟨fun h=>absurd rfl h,fun _=>⟨fun e=>by omega,fun _=>⟨rfl,e4 (by omega),?_⟩⟩⟩
   obtain⟨p,hm,_,hq⟩:=ze5 hp
   show valC _ (zp r.2.2.2.2.1 t).1=0
   rw[hq]
   cases hz:(!decide ((z88 r.2.2.2.2.1).1=0)||decide ((r.2.2.2.2.1.length:Int)=0)) with
   |true=>rw[hz] at c4;cases c4
   |false=>rw[hz,zD] at c4;exact(z17e c4 p hm).2
end Groat

set_option profiler true
set_option profiler.threshold 2000
namespace Groat
open Go.IntKind renaming wrap→zW,i64→zI,u8→zU
open Go Go.Ref
def howC(style c:Int):Int:=if style=2∧c=1 then 1 else if style=1∧(c=5∨c=6) then 2 else 0
def sizC(h:Int)(n:Nat):Nat:=if h=1 then(n+1)/2 else if h=2 then 2*n else n
def conG(h:Int)(t:ByteArray)(n:Int):Sum Int ByteArray:=if h=1 then(if(z1l t n).2.1=0 then .inr (z1l t n).1 else .inl (z1l t n).2.1) else if h=2 then(if(z22 t).2.2=true then .inr (z22 t).1 else .inl 3) else .inr t
def cellV(s:Spec)(z:Int):Sum Int ByteArray→ByteArray×Int×Int
 | .inl e=>(bs [],0,e)
 | .inr t=>if valC s t=0 then(t,z,0) else(bs [],0,valC s t)
def z2k(h:Int)(s:Spec)(b:ByteArray)(n a:Nat):ByteArray×Int×Int:=
 if b.size<a+sizC h n then(bs [],0,2) else cellV s ((a+sizC h n:Nat):Int) (conG h (b.extract a (a+sizC h n)) n)
def zxy(style:Int)(s:Spec)(b:ByteArray)(at_:Int):Sum Int (Nat×Nat):=
 if s.2.2.1=1 then .inr (s.2.2.2.1.toNat,at_.toNat) else if¬(z1j style s.2.2.1 b at_).2.2=0 then .inl (z1j style s.2.2.1 b at_).2.2 else
  if(z1j style s.2.2.1 b at_).1<s.2.2.2.1∨s.2.2.2.2.1<(z1j style s.2.2.1 b at_).1 then .inl 5 else .inr ((z1j style s.2.2.1 b at_).1.toNat,(z1j style s.2.2.1 b at_).2.1.toNat)
def cellW(h:Int)(s:Spec)(b:ByteArray):Sum Int (Nat×Nat)→ByteArray×Int×Int
 | .inl e=>(bs [],0,e)
 | .inr q=>z2k h s b q.1 q.2
def z21(style:Int)(s:Spec)(b:ByteArray)(at_:Int):ByteArray×Int×Int:=
 if(style=1∨style=2)∧specC s=0∧0≤at_∧at_≤b.size then cellW (howC style s.2.1) s b (zxy style s b at_) else(bs [],0,1)
theorem zyi(style c:Int):Q13 style c=some (howC style c):=by
 unfold Q13 zum howC
 by_cases h1:style=1<;>by_cases h2:style=2<;>by_cases h3:c=1<;>by_cases h4:c=5<;>by_cases h5:c=6<;>(try(exfalso;omega))<;>simp [h1,h2,h3,h4,h5]
theorem zjx(style c:Int):howC style c=0∨howC style c=1∨howC style c=2:=by
 unfold howC
 split
 ·exact .inr (.inl rfl)
 ·split
  ·exact .inr (.inr rfl)
  ·exact .inl rfl
theorem z9h{s:Spec}(h:specC s=0):1≤s.2.1∧s.2.1≤6∧1≤s.2.2.1∧s.2.2.1≤3∧1≤s.2.2.2.1∧s.2.2.2.1≤s.2.2.2.2.1∧s.2.2.2.2.1≤999∧(s.2.2.1=2→s.2.2.2.2.1≤99)∧(s.2.2.1=1→s.2.2.2.1=s.2.2.2.2.1):=by
 unfold specC at h
 split at h
 ·cases h
 split at h
 ·cases h
 split at h
 ·cases h
 split at h
 ·cases h
 refine⟨by omega,by omega,by omega,by omega,by omega,by omega,by omega,fun e=>by omega,fun e=>by omega⟩
theorem z1bm:∀l:List Int,(hexG l).length≤l.length
 | []=>by simp [hexG]
 | [a]=>by simp [hexG]
 |a::b::r=>by rw[hexG,List.length_cons,List.length_cons,List.length_cons];have:=z1bm r;omega
theorem zra(s:ByteArray):(z22 s).1.size≤s.size:=by
 unfold z22
 split
 ·exact Nat.zero_le _
 ·split
  ·exact Nat.zero_le _
  ·rw[z1d,←zg];exact z1bm _
theorem z16y{style form:Int}{b:ByteArray}{at_:Int}(h:(z1j style form b at_).2.2=0):0≤(z1j style form b at_).2.1∧(z1j style form b at_).2.1≤b.size:=by
 unfold z1j at h⊢
 cases hk:(preOk style form&&decide (0≤at_∧at_≤(b.size:Int))) with
 |false=>rw[hk] at h;cases h
 |true=>
  rw[hk] at h
  simp only[zC] at h⊢
  split
  ·exact⟨Int.le_refl _,Int.natCast_nonneg _⟩
  ·rename_i hs
   split
   ·dsimp only;exact⟨by omega,by omega⟩
   ·exact⟨Int.le_refl _,Int.natCast_nonneg _⟩
def cellB(style_0:Int)(s_1:Spec)(b_2:ByteArray)(n a:Int):Option Zt8:=
 let K:ByteArray→Int→Int→Option Zt8:=fun a0 a1 a2=>some (a0,a1,a2)
 ((Q13 style_0 s_1.2.1).bind fun r4=>(bif(decide (r4=(1:Int))) then((Q2 n).bind fun r5=>(bif(decide ((zW zI (((b_2).size:Int)-a))<r5)) then(K (bs []) (0:Int) (2:Int)) else(bif(decide ((0:Int)≤(zW zI (a+r5)))) then(bif(decide ((zW zI (a+r5))≤(((b_2).size:Nat):Int))) then(bif(decide ((0:Int)≤a)) then(bif(decide (a≤((((zW zI (a+r5))).toNat:Nat):Int))) then((Q13 style_0 s_1.2.1).bind fun r6=>(bif(decide (r6=(1:Int))) then((Q0 ((b_2).extract (a).toNat ((zW zI (a+r5))).toNat) n).bind fun r7=>(bif(!(decide (r7.2.1=(0:Int)))) then(K (bs []) (0:Int) r7.2.1) else((Q229 s_1 r7.1).bind fun r8=>(bif(!(decide (r8=(0:Int)))) then(K (bs []) (0:Int) r8) else(K r7.1 (zW zI (a+r5)) (0:Int)))))) else(bif(decide (r6=(2:Int))) then((Q170 ((b_2).extract (a).toNat ((zW zI (a+r5))).toNat)).bind fun r9=>(bif(!r9.2.2) then(K (bs []) (0:Int) (3:Int)) else((Q229 s_1 r9.1).bind fun r10=>(bif(!(decide (r10=(0:Int)))) then(K (bs []) (0:Int) r10) else(K r9.1 (zW zI (a+r5)) (0:Int)))))) else((Q229 s_1 ((b_2).extract (a).toNat ((zW zI (a+r5))).toNat)).bind fun r11=>(bif(!(decide (r11=(0:Int)))) then(K (bs []) (0:Int) r11) else(K ((b_2).extract (a).toNat ((zW zI (a+r5))).toNat) (zW zI (a+r5)) (0:Int))))))) else none) else none) else none) else none))) else(bif(decide (r4=(2:Int))) then(bif(decide ((zW zI (((b_2).size:Int)-a))<(zW zI ((2:Int)*n)))) then(K (bs []) (0:Int) (2:Int)) else(bif(decide ((0:Int)≤(zW zI (a+(zW zI ((2:Int)*n)))))) then(bif(decide ((zW zI (a+(zW zI ((2:Int)*n))))≤(((b_2).size:Nat):Int))) then(bif(decide ((0:Int)≤a)) then(bif(decide (a≤((((zW zI (a+(zW zI ((2:Int)*n))))).toNat:Nat):Int))) then((Q13 style_0 s_1.2.1).bind fun r12=>(bif(decide (r12=(1:Int))) then((Q0 ((b_2).extract (a).toNat ((zW zI (a+(zW zI ((2:Int)*n))))).toNat) n).bind fun r13=>(bif(!(decide (r13.2.1=(0:Int)))) then(K (bs []) (0:Int) r13.2.1) else((Q229 s_1 r13.1).bind fun r14=>(bif(!(decide (r14=(0:Int)))) then(K (bs []) (0:Int) r14) else(K r13.1 (zW zI (a+(zW zI ((2:Int)*n)))) (0:Int)))))) else(bif(decide (r12=(2:Int))) then((Q170 ((b_2).extract (a).toNat ((zW zI (a+(zW zI ((2:Int)*n))))).toNat)).bind fun r15=>(bif(!r15.2.2) then(K (bs []) (0:Int) (3:Int)) else((Q229 s_1 r15.1).bind fun r16=>(bif(!(decide (r16=(0:Int)))) then(K (bs []) (0:Int) r16) else(K r15.1 (zW zI (a+(zW zI ((2:Int)*n)))) (0:Int)))))) else((Q229 s_1 ((b_2).extract (a).toNat ((zW zI (a+(zW zI ((2:Int)*n))))).toNat)).bind fun r17=>(bif(!(decide (r17=(0:Int)))) then(K (bs []) (0:Int) r17) else(K ((b_2).extract (a).toNat ((zW zI (a+(zW zI ((2:Int)*n))))).toNat) (zW zI (a+(zW zI ((2:Int)*n)))) (0:Int))))))) else none) else none) else none) else none)) else(bif(decide ((zW zI (((b_2).size:Int)-a))<n)) then(K (bs []) (0:Int) (2:Int)) else(bif(decide ((0:Int)≤(zW zI (a+n)))) then(bif(decide ((zW zI (a+n))≤(((b_2).size:Nat):Int))) then(bif(decide ((0:Int)≤a)) then(bif(decide (a≤((((zW zI (a+n))).toNat:Nat):Int))) then((Q13 style_0 s_1.2.1).bind fun r18=>(bif(decide (r18=(1:Int))) then((Q0 ((b_2).extract (a).toNat ((zW zI (a+n))).toNat) n).bind fun r19=>(bif(!(decide (r19.2.1=(0:Int)))) then(K (bs []) (0:Int) r19.2.1) else((Q229 s_1 r19.1).bind fun r20=>(bif(!(decide (r20=(0:Int)))) then(K (bs []) (0:Int) r20) else(K r19.1 (zW zI (a+n)) (0:Int)))))) else(bif(decide (r18=(2:Int))) then((Q170 ((b_2).extract (a).toNat ((zW zI (a+n))).toNat)).bind fun r21=>(bif(!r21.2.2) then(K (bs []) (0:Int) (3:Int)) else((Q229 s_1 r21.1).bind fun r22=>(bif(!(decide (r22=(0:Int)))) then(K (bs []) (0:Int) r22) else(K r21.1 (zW zI (a+n)) (0:Int)))))) else((Q229 s_1 ((b_2).extract (a).toNat ((zW zI (a+n))).toNat)).bind fun r23=>(bif(!(decide (r23=(0:Int)))) then(K (bs []) (0:Int) r23) else(K ((b_2).extract (a).toNat ((zW zI (a+n))).toNat) (zW zI (a+n)) (0:Int))))))) else none) else none) else none) else none)))))
theorem z1yf(style:Int)(s:Spec)(b:ByteArray)(n a:Nat)(hb:b.size≤1099511627776)(hn:n≤999)(ha:a≤b.size)(hh:howC style s.2.1=0):cellB style s b n a=some (z2k (howC style s.2.1) s b n a):=by
 unfold cellB
 simp only[zyi,zc]
 have w0:zW zI ((b.size:Int)-(a:Int))=(b.size:Int)-a:=zi (by omega) (by omega)
 have w1:∀z:Nat,z≤2000→zW zI ((a:Int)+(z:Int))=((a+z:Nat):Int):=fun z hz=>by rw[zi (by omega) (by omega)];omega
 have hx:∀z:Nat,((a+z:Nat):Int).toNat=a+z:=fun z=>Int.toNat_natCast _
 have hes:∀z:Nat,(b.extract a (a+z)).size≤1099511627776:=fun z=>by rw[ByteArray.size_extract];omega
 rw[hh]
 simp only[Int.reduceEq,decide_true,decide_false,zC,zD,w0,w1 n (by omega),hx,Int.toNat_natCast]
 unfold z2k sizC conG
 simp only[show¬((0:Int)=1) from by decide,show¬((0:Int)=2) from by decide,if_false]
 split
 ·rename_i hc
  rw[zT (by omega),zC]
 ·rename_i hc
  rw[zF (by omega),zD,zT (by omega),zC,zT (by omega),zC,zT (by omega),zC,zT (by omega),zC,z2r _ _ (hes n),zc]
  unfold cellV
  by_cases hv:valC s (b.extract a (a+n))=0
  ·simp only[hv,decide_true,Bool.not_true,zD,if_true]
  ·simp only[hv,decide_false,Bool.not_false,zC,if_false]
theorem z1yg(style:Int)(s:Spec)(b:ByteArray)(n a:Nat)(hb:b.size≤1099511627776)(hn:n≤999)(ha:a≤b.size)(hh:howC style s.2.1=1):cellB style s b n a=some (z2k (howC style s.2.1) s b n a):=by
 unfold cellB
 simp only[zyi,zc]
 have w0:zW zI ((b.size:Int)-(a:Int))=(b.size:Int)-a:=zi (by omega) (by omega)
 have w1:∀z:Nat,z≤2000→zW zI ((a:Int)+(z:Int))=((a+z:Nat):Int):=fun z hz=>by rw[zi (by omega) (by omega)];omega
 have hx:∀z:Nat,((a+z:Nat):Int).toNat=a+z:=fun z=>Int.toNat_natCast _
 have hes:∀z:Nat,(b.extract a (a+z)).size≤1099511627776:=fun z=>by rw[ByteArray.size_extract];omega
 rw[hh]
 have ez:((n:Int)+1)/2=(((n+1)/2:Nat):Int):=by omega
 simp only[Int.reduceEq,decide_true,decide_false,zC,zD,z6c (n:Int) (by omega) (by omega),zc,ez]
 simp only[w0,w1 ((n+1)/2) (by omega),hx,Int.toNat_natCast,Int.reduceEq,decide_true,decide_false,zC,zD]
 unfold z2k sizC conG
 simp only[if_true]
 split
 ·rename_i hc
  rw[zT (by omega),zC]
 ·rename_i hc
  rw[zF (by omega),zD,zT (by omega),zC,zT (by omega),zC,zT (by omega),zC,zT (by omega),zC,ziy _ _ (hes _),zc]
  generalize hg:z1l (b.extract a (a+(n+1)/2)) (n:Int)=g
  obtain⟨t,e,i⟩:=g
  have hts:=z5e hg
  dsimp only
  by_cases he:e=0
  ·rw[zT he,Bool.not_true,zD,if_pos he,z2r _ _ (by omega),zc]
   unfold cellV
   by_cases hv:valC s t=0
   ·simp only[hv,decide_true,Bool.not_true,zD,if_true]
   ·simp only[hv,decide_false,Bool.not_false,zC,if_false]
  ·rw[zF he,Bool.not_false,zC,if_neg he];rfl
theorem z1yh(style:Int)(s:Spec)(b:ByteArray)(n a:Nat)(hb:b.size≤1099511627776)(hn:n≤999)(ha:a≤b.size)(hh:howC style s.2.1=2):cellB style s b n a=some (z2k (howC style s.2.1) s b n a):=by
 unfold cellB
 simp only[zyi,zc]
 have w0:zW zI ((b.size:Int)-(a:Int))=(b.size:Int)-a:=zi (by omega) (by omega)
 have w1:∀z:Nat,z≤2000→zW zI ((a:Int)+(z:Int))=((a+z:Nat):Int):=fun z hz=>by rw[zi (by omega) (by omega)];omega
 have hx:∀z:Nat,((a+z:Nat):Int).toNat=a+z:=fun z=>Int.toNat_natCast _
 have hes:∀z:Nat,(b.extract a (a+z)).size≤1099511627776:=fun z=>by rw[ByteArray.size_extract];omega
 rw[hh]
 have ez:zW zI ((2:Int)*(n:Int))=((2*n:Nat):Int):=by rw[zi (by omega) (by omega)];omega
 simp only[Int.reduceEq,decide_true,decide_false,zD,zC]
 rw[ez]
 simp only[w0,w1 (2*n) (by omega),hx,Int.toNat_natCast,Int.reduceEq,decide_true,decide_false,zC,zD]
 unfold z2k sizC conG
 simp only[show¬((2:Int)=1) from by decide,if_false,if_true]
 split
 ·rename_i hc
  rw[zT (by omega),zC]
 ·rename_i hc
  rw[zF (by omega),zD,zT (by omega),zC,zT (by omega),zC,zT (by omega),zC,zT (by omega),zC,zyg _ (hes _),zc]
  have hts:=zra (b.extract a (a+2*n))
  have h3:=hes (2*n)
  generalize z22 (b.extract a (a+2*n))=g at hts
  obtain⟨t,i,ok⟩:=g
  dsimp only at hts⊢
  cases ok with
  |true=>
   rw[Bool.not_true,zD,if_pos rfl,z2r _ _ (by omega),zc]
   unfold cellV
   by_cases hv:valC s t=0
   ·simp only[hv,decide_true,Bool.not_true,zD,if_true]
   ·simp only[hv,decide_false,Bool.not_false,zC,if_false]
  |false=>rw[Bool.not_false,zC,if_neg (by decide)];rfl
theorem z1av(style:Int)(s:Spec)(b:ByteArray)(n a:Nat)(hb:b.size≤1099511627776)(hn:n≤999)(ha:a≤b.size):cellB style s b n a=some (z2k (howC style s.2.1) s b n a):=by
 rcases zjx style s.2.1 with hh|hh|hh
 ·exact z1yf style s b n a hb hn ha hh
 ·exact z1yg style s b n a hb hn ha hh
 ·exact z1yh style s b n a hb hn ha hh
theorem z1gp(style:Int)(s:Spec)(b:ByteArray)(at_:Int)(hb:b.size≤1099511627776):Q11 style s b at_=some (z21 style s b at_):=by
 have hk:Q14 style=some (decide (style=1∨style=2)):=by
  unfold Q14 zgi
  by_cases h1:style=1
  ·rw[zT (p:=style=1∨style=2) (.inl h1),zT h1];rfl
  ·rw[zF h1,zD]
   by_cases h2:style=2
   ·rw[zT (p:=style=1∨style=2) (.inr h2),zT h2]
   ·rw[zF (p:=style=1∨style=2) (fun h=>h.elim h1 h2),zF h2]
 unfold Q11 zub z21
 rw[hk,zc]
 by_cases h1:style=1∨style=2
 case neg=>rw[zF h1,if_neg (fun h=>h1 h.1)];rfl
 rw[zT h1,Bool.not_true,zD,z4o,zc]
 by_cases h2:specC s=0
 case neg=>rw[zF h2,if_neg (fun h=>h2 h.2.1)];rfl
 rw[zT h2,Bool.not_true,zD]
 by_cases h3:at_<0
 ·rw[zT h3,if_neg (fun h=>by omega)];rfl
 rw[zF h3,zD]
 by_cases h4:(b.size:Int)<at_
 ·rw[zT h4,if_neg (fun h=>by omega)];rfl
 rw[zF h4,zD,if_pos ⟨h1,h2,by omega,by omega⟩]
 obtain⟨k1,k2,k3,k4,k5,k6,k7,k8,k9⟩:=z9h h2
 obtain⟨m,rfl⟩:∃m:Nat,at_=m:=⟨at_.toNat,by omega⟩
 unfold zxy
 by_cases h5:s.2.2.1=1
 ·rw[zT h5,Bool.not_true,zD,if_pos h5]
  have:=z1av style s b s.2.2.2.1.toNat m hb (by omega) (by omega)
  rw[Int.toNat_of_nonneg (by omega)] at this
  exact this
 ·rw[zF h5,Bool.not_false,zC,if_neg h5,z1o0 _ _ _ _ hb,zc]
  by_cases h6:(z1j style s.2.2.1 b m).2.2=0
  case neg=>rw[zF h6,if_pos h6];rfl
  rw[zT h6,Bool.not_true,zD,if_neg (fun h=>h h6)]
  have hp:=z16y h6
  by_cases h7:(z1j style s.2.2.1 b m).1<s.2.2.2.1
  ·rw[zT h7,if_pos (.inl h7)];rfl
  rw[zF h7,zD]
  by_cases h8:s.2.2.2.2.1<(z1j style s.2.2.1 b m).1
  ·rw[zT h8,if_pos (.inr h8)];rfl
  rw[zF h8,zD,if_neg (fun h=>h.elim h7 h8)]
  have:=z1av style s b (z1j style s.2.2.1 b m).1.toNat (z1j style s.2.2.1 b m).2.1.toNat hb (by omega) (by omega)
  rw[Int.toNat_of_nonneg (by omega),Int.toNat_of_nonneg (by omega)] at this
  exact this
end Groat

namespace Groat
open Go.IntKind renaming wrap→zW,i64→zI,u8→zU
open Go Go.Ref
theorem how_1{style c:Int}(h:howC style c=1):style=2∧c=1:=by
 unfold howC at h
 split at h
 ·assumption
 ·split at h<;>cases h
theorem how_2{style c:Int}(h:howC style c=2):style=1∧(c=5∨c=6):=by
 unfold howC at h
 split at h
 ·cases h
 ·split at h
  ·assumption
  ·cases h
theorem how_0{style c:Int}(h:howC style c=0)(hs:style=1∨style=2)(hc:c≤6):(style=1∧¬5≤c)∨(style=2∧¬c=1):=by
 unfold howC at h
 split at h
 ·cases h
 ·split at h
  ·cases h
  ·omega
theorem j3_eq(style:Int)(s:Spec)(b:ByteArray)(n a:Nat)(hb:b.size≤1099511627776)(hn:n≤999)(ha:a≤b.size)(hs:style=1∨style=2)(hc:s.2.1≤6):z3l style b a n s=some (z2k (howC style s.2.1) s b n a):=by
 have w0:zW zI ((b.size:Int)-(a:Int))=(b.size:Int)-a:=zi (by omega) (by omega)
 have w1:∀z:Nat,z≤2000→zW zI ((a:Int)+(z:Int))=((a+z:Nat):Int):=fun z hz=>by rw[zi (by omega) (by omega)];omega
 have hx:∀z:Nat,((a+z:Nat):Int).toNat=a+z:=fun z=>Int.toNat_natCast _
 have hes:∀z:Nat,(b.extract a (a+z)).size≤1099511627776:=fun z=>by rw[ByteArray.size_extract];omega
 have ez:zW zI ((n:Int)+(n:Int))=((2*n:Nat):Int):=by rw[zi (by omega) (by omega)];omega
 have e1:zW zI ((n:Int)+1)=((n+1:Nat):Int):=by rw[zi (by omega) (by omega)];omega
 have e2:Int.tdiv ((n+1:Nat):Int) 2=(((n+1)/2:Nat):Int):=rfl
 have e3:zW zI (((n+1)/2:Nat):Int)=(((n+1)/2:Nat):Int):=zi (by omega) (by omega)
 unfold z2k sizC conG
 rcases zjx style s.2.1 with hh|hh|hh
 ·have key:z3l style b a n s=bif decide ((b.size:Int)-a<(n:Int)) then some (bs [],0,2) else bif decide ((0:Int)≤((a+n:Nat):Int)) then bif decide (((a+n:Nat):Int)≤(b.size:Int)) then bif decide ((0:Int)≤(a:Int)) then bif decide ((a:Int)≤((a+n:Nat):Int)) then(Q101 s (b.extract a (a+n))).bind fun r6=>bif !(decide (r6=(0:Int))) then some (bs [],0,r6) else some (b.extract a (a+n),((a+n:Nat):Int),0) else none else none else none else none:=by
   rcases how_0 hh hs hc with⟨h1,h2⟩|⟨h1,h2⟩
   ·subst h1
    simp only[z3l,z8q,z8r,z8s,z8t,z6o,z6p,z6q,z5l,z6r,z6s,z5m,z6t,z4p,z4q,z4r,z4s,z5n,z3w,z5o,z5p,z3x,z5q,z5r,z5s,z5t,Int.reduceEq,decide_true,decide_false,zC,zD,h2,w0,w1 n (by omega),hx,Int.toNat_natCast]
   ·subst h1
    simp only[z3l,z8q,z8r,z8s,z8t,z6o,z6p,z6q,z5l,z6r,z6s,z5m,z6t,z4p,z4q,z4r,z4s,z5n,z3w,z5o,z5p,z3x,z5q,z5r,z5s,z5t,Int.reduceEq,decide_true,decide_false,zC,zD,h2,w0,w1 n (by omega),hx,Int.toNat_natCast]
  rw[key,hh]
  simp only[Int.reduceEq,if_false]
  split
  ·rename_i hc
   rw[zT (by omega),zC]
  ·rename_i hc
   rw[zF (by omega),zD,zT (by omega),zC,zT (by omega),zC,zT (by omega),zC,zT (by omega),zC,z27 _ _ (hes n),zc]
   unfold cellV
   by_cases hv:valC s (b.extract a (a+n))=0
   ·simp only[hv,decide_true,Bool.not_true,zD,if_true]
   ·simp only[hv,decide_false,Bool.not_false,zC,if_false]
 ·have key:z3l style b a n s=bif decide ((b.size:Int)-a<(((n+1)/2:Nat):Int)) then some (bs [],0,2) else bif decide ((0:Int)≤((a+(n+1)/2:Nat):Int)) then bif decide (((a+(n+1)/2:Nat):Int)≤(b.size:Int)) then bif decide ((0:Int)≤(a:Int)) then bif decide ((a:Int)≤((a+(n+1)/2:Nat):Int)) then(Q77 (b.extract a (a+(n+1)/2)) n).bind fun r4=>bif !(decide (r4.2.1=(0:Int))) then some (bs [],0,r4.2.1) else(Q101 s r4.1).bind fun r6=>bif !(decide (r6=(0:Int))) then some (bs [],0,r6) else some (r4.1,((a+(n+1)/2:Nat):Int),0) else none else none else none else none:=by
   obtain⟨h1,h2⟩:=how_1 hh
   subst h1
   simp only[z3l,z8q,z8r,z8s,z8t,z6o,z6p,z6q,z5l,z6r,z6s,z5m,z6t,z4p,z4q,z4r,z4s,z5n,z3w,z5o,z5p,z3x,z5q,z5r,z5s,z5t,Int.reduceEq,decide_true,decide_false,zC,zD,h2,w0,e1,e2,e3,w1 ((n+1)/2) (by omega),hx,Int.toNat_natCast]
  rw[key,hh]
  simp only[if_true]
  split
  ·rename_i hc
   rw[zT (by omega),zC]
  ·rename_i hc
   rw[zF (by omega),zD,zT (by omega),zC,zT (by omega),zC,zT (by omega),zC,zT (by omega),zC,zrr _ _ (hes _),zc]
   generalize hg:z1l (b.extract a (a+(n+1)/2)) (n:Int)=g
   obtain⟨t,e,i⟩:=g
   have hts:=z5e hg
   dsimp only
   by_cases he:e=0
   ·rw[zT he,Bool.not_true,zD,if_pos he,z27 _ _ (by omega),zc]
    unfold cellV
    by_cases hv:valC s t=0
    ·simp only[hv,decide_true,Bool.not_true,zD,if_true]
    ·simp only[hv,decide_false,Bool.not_false,zC,if_false]
   ·rw[zF he,Bool.not_false,zC,if_neg he];rfl
 ·have key:z3l style b a n s=bif decide ((b.size:Int)-a<((2*n:Nat):Int)) then some (bs [],0,2) else bif decide ((0:Int)≤((a+2*n:Nat):Int)) then bif decide (((a+2*n:Nat):Int)≤(b.size:Int)) then bif decide ((0:Int)≤(a:Int)) then bif decide ((a:Int)≤((a+2*n:Nat):Int)) then(Q74 (b.extract a (a+2*n))).bind fun r5=>bif !r5.2.2 then some (bs [],0,3) else(Q101 s r5.1).bind fun r6=>bif !(decide (r6=(0:Int))) then some (bs [],0,r6) else some (r5.1,((a+2*n:Nat):Int),0) else none else none else none else none:=by
   obtain⟨h1,h2⟩:=how_2 hh
   have h3:5≤s.2.1:=by omega
   subst h1
   simp only[z3l,z8q,z8r,z8s,z8t,z6o,z6p,z6q,z5l,z6r,z6s,z5m,z6t,z4p,z4q,z4r,z4s,z5n,z3w,z5o,z5p,z3x,z5q,z5r,z5s,z5t,Int.reduceEq,decide_true,decide_false,zC,zD,h3,w0,ez,w1 (2*n) (by omega),hx,Int.toNat_natCast]
  rw[key,hh]
  simp only[Int.reduceEq,if_false,if_true]
  split
  ·rename_i hc
   rw[zT (by omega),zC]
  ·rename_i hc
   rw[zF (by omega),zD,zT (by omega),zC,zT (by omega),zC,zT (by omega),zC,zT (by omega),zC,z183 _ (hes _),zc]
   have hts:=zra (b.extract a (a+2*n))
   have h3:=hes (2*n)
   generalize z22 (b.extract a (a+2*n))=g at hts
   obtain⟨t,i,ok⟩:=g
   dsimp only at hts⊢
   cases ok with
   |true=>
    rw[Bool.not_true,zD,if_pos rfl,z27 _ _ (by omega),zc]
    unfold cellV
    by_cases hv:valC s t=0
    ·simp only[hv,decide_true,Bool.not_true,zD,if_true]
    ·simp only[hv,decide_false,Bool.not_false,zC,if_false]
   |false=>rw[Bool.not_false,zC,if_neg (by decide)];rfl
theorem z1pe(style:Int)(s:Spec)(b:ByteArray)(at_:Int)(hb:b.size≤1099511627776):Q103 style s b at_=some (z21 style s b at_):=by
 have hk:Q103 style s b at_=bif decide ((style=1∨style=2)∧specC s=0∧0≤at_∧at_≤b.size) then zkq style b at_ s else some (bs [],0,1):=by
  unfold Q103 z8u
  simp only[z1k,zc]
  by_cases h1:style=1<;>by_cases h2:style=2<;>by_cases h3:specC s=0<;>by_cases h4:at_<0<;>by_cases h5:(b.size:Int)<at_<;>(try(exfalso;omega))<;>simp [h1,h2,h3,h4,h5,zzc,zkr]
  all_goals(try omega)
  all_goals first
   |(rw[zT (by omega),zT (by omega)];rfl)
   |(rw[zF (by omega)];rfl)
   |(rw[zT (by omega),zF (by omega)];rfl)
 rw[hk]
 unfold z21
 by_cases h0:(style=1∨style=2)∧specC s=0∧0≤at_∧at_≤(b.size:Int)
 case neg=>rw[zF h0,if_neg h0];rfl
 rw[zT h0,zC,if_pos h0]
 obtain⟨h1,h2,h3,h4⟩:=h0
 obtain⟨k1,k2,k3,k4,k5,k6,k7,k8,k9⟩:=z9h h2
 obtain⟨m,rfl⟩:∃m:Nat,at_=m:=⟨at_.toNat,by omega⟩
 unfold zkq zks zxy
 by_cases h5:s.2.2.1=1
 ·rw[zT h5,Bool.not_true,zD,if_pos h5]
  have:=j3_eq style s b s.2.2.2.1.toNat m hb (by omega) (by omega) h1 k2
  rw[Int.toNat_of_nonneg (by omega),k9 h5] at this
  rw[k9 h5]
  exact this
 ·rw[zF h5,Bool.not_false,zC,if_neg h5,z1pd _ _ _ _ hb,zc]
  by_cases h6:(z1j style s.2.2.1 b m).2.2=0
  case neg=>rw[zF h6,if_pos h6];rfl
  rw[zT h6,Bool.not_true,zD,if_neg (fun h=>h h6)]
  have hp:=z16y h6
  unfold zzd z8v zze zkt zzf zku
  dsimp only
  by_cases h7:(z1j style s.2.2.1 b m).1<s.2.2.2.1
  ·rw[zT h7,if_pos (.inl h7)];rfl
  rw[zF h7,zD]
  by_cases h8:s.2.2.2.2.1<(z1j style s.2.2.1 b m).1
  ·rw[zT h8,if_pos (.inr h8)];rfl
  rw[zF h8,zD,if_neg (fun h=>h.elim h7 h8)]
  have:=j3_eq style s b (z1j style s.2.2.1 b m).1.toNat (z1j style s.2.2.1 b m).2.1.toNat hb (by omega) (by omega) h1 k2
  rw[Int.toNat_of_nonneg (by omega),Int.toNat_of_nonneg (by omega)] at this
  exact this
def conC(h:Int)(t:ByteArray):ByteArray:=if h=1 then(z2m t).1 else if h=2 then z3p t else t
def preC(style form:Int)(n:Nat):ByteArray:=if form=1 then bs [] else(z6i style form n).1
def z34(style:Int)(s:Spec)(t:ByteArray):ByteArray×Int:=
 if¬(style=1∨style=2) then(bs [],1) else if¬valC s t=0 then(bs [],valC s t) else(preC style s.2.2.1 t.size++conC (howC style s.2.1) t,0)
theorem zj0(t:ByteArray):(z2m t).1.size≤500:=by
 by_cases h:t.size≤999∧allD (bl t)=true
 ·rw[zb4 h.1 h.2];omega
 ·unfold z2m;rw[zF h];exact Nat.zero_le _
theorem zk5(style form:Int)(n:Nat):(preC style form n).size≤500:=by
 unfold preC z6i
 split
 ·exact Nat.zero_le _
 ·cases preOk style form with
  |false=>exact Nat.zero_le _
  |true=>
   cases(putD (n:Int) form).2 with
   |false=>exact Nat.zero_le _
   |true=>
    show(if style=2 then _ else _:ByteArray).size≤500
    split
    ·exact zj0 _
    ·have:=zk6 (n:Int) form;omega
theorem zjb(h:Int)(t:ByteArray):(conC h t).size≤2*t.size+500:=by
 unfold conC
 split
 ·have:=zj0 t;omega
 ·split
  ·rw[zbe];omega
  ·omega
theorem z1ar(x:ByteArray):bs []++x=x:=by
 apply ByteArray.ext
 simp [ByteArray.data_append,bs]
theorem z1gt(style c:Int)(t:ByteArray)(hs:style=1∨style=2)(hc:c≤6)(ht:t.size≤1099511627776):Q105 style c t=some (conC (howC style c) t):=by
 unfold Q105 zkw conC howC
 have hp:=zrt t (by simp only[maxLen];omega)
 have hq:=z186 t ht
 rcases hs with rfl|rfl
 ·by_cases h5:(5:Int)≤c
  ·have:c=5∨c=6:=by omega
   simp [h5,hq,this]
  ·have h6:¬(c=5∨c=6):=by omega
   simp [h5,h6]
 ·by_cases h1:c=1
  ·simp [h1,hp]
  ·simp [h1]
theorem z1pj(style:Int)(s:Spec)(t:ByteArray)(ht:t.size≤1099511627776):Q104 style s t=some (z34 style s t):=by
 have key:style=1∨style=2→(Q101 s t).bind (fun r1=>(bif(!(decide (r1=(0:Int)))) then some (bs [],r1) else(bif(!(decide (s.2.2.1=(1:Int)))) then((Q93 style s.2.2.1 ((t).size:Int)).bind fun r2=>((Q105 style s.2.1 t).bind fun r3=>(bif decide ((r2.1).size+(r3).size≤9223372036854775807) then some (r2.1++r3,(0:Int)) else none))) else((Q105 style s.2.1 t).bind fun r4=>(bif decide (((bs [])).size+(r4).size≤9223372036854775807) then some ((bs [])++r4,(0:Int)) else none)))))=some (z34 style s t):=fun hs=>by
  unfold z34
  rw[z27 s t ht,zc,if_neg (fun h=>h hs)]
  by_cases hv:valC s t=0
  case neg=>rw[zF hv,if_pos hv];rfl
  rw[zT hv,Bool.not_true,zD,if_neg (fun h=>h hv)]
  have hk:=z9h ((z7o s t ht).1 hv).1
  have hcs:=zjb (howC style s.2.1) t
  have hps:=zk5 style s.2.2.1 t.size
  rw[z1gt style s.2.1 t hs (by omega) ht]
  simp only[zc]
  by_cases h1:s.2.2.1=1
  ·rw[zT h1,Bool.not_true,zD,zT (by show 0+_≤_;omega),zC]
   unfold preC
   rw[if_pos h1]
  ·unfold preC at hps⊢
   rw[if_neg h1] at hps
   rw[zF h1,Bool.not_false,zC,z1pi _ _ _ (by omega),zc,zT (by omega),zC,if_neg h1]
 unfold Q104 zkv
 by_cases h1:style=1
 ·rw[zT h1,Bool.not_true,zD]
  exact key (.inl h1)
 ·rw[zF h1,Bool.not_false,zC]
  by_cases h2:style=2
  ·rw[zT h2,Bool.not_true,zD]
   exact key (.inr h2)
  ·rw[zF h2,Bool.not_false,zC]
   unfold z34
   rw[if_pos (fun h=>h.elim h1 h2)]
theorem z1gq(style:Int)(s:Spec)(t:ByteArray)(ht:t.size≤1099511627776):Q12 style s t=some (z34 style s t):=by
 unfold Q12 zui Q14 zgi z34
 have hcs:=zjb (howC style s.2.1) t
 have hps:=zk5 style s.2.2.1 t.size
 have main:style=1∨style=2→(Q229 s t).bind (fun r2=>(bif(!(decide (r2=(0:Int)))) then some (bs [],r2) else(bif(!(decide (s.2.2.1=(1:Int)))) then((Q195 style s.2.2.1 ((t).size:Int)).bind fun r3=>((Q13 style s.2.1).bind fun r4=>(bif(decide (r4=(1:Int))) then((Q1 t).bind fun r5=>(bif decide ((r3.1).size+(r5.1).size≤9223372036854775807) then some (r3.1++r5.1,(0:Int)) else none)) else(bif(decide (r4=(2:Int))) then((Q171 t).bind fun r6=>(bif decide ((r3.1).size+(r6).size≤9223372036854775807) then some (r3.1++r6,(0:Int)) else none)) else(bif decide ((r3.1).size+(t).size≤9223372036854775807) then some (r3.1++t,(0:Int)) else none))))) else((Q13 style s.2.1).bind fun r7=>(bif(decide (r7=(1:Int))) then((Q1 t).bind fun r8=>(bif decide (((bs [])).size+(r8.1).size≤9223372036854775807) then some ((bs [])++r8.1,(0:Int)) else none)) else(bif(decide (r7=(2:Int))) then((Q171 t).bind fun r9=>(bif decide (((bs [])).size+(r9).size≤9223372036854775807) then some ((bs [])++r9,(0:Int)) else none)) else(bif decide (((bs [])).size+(t).size≤9223372036854775807) then some ((bs [])++t,(0:Int)) else none)))))))=some (if¬valC s t=0 then(bs [],valC s t) else(preC style s.2.2.1 t.size++conC (howC style s.2.1) t,0)):=fun hs=>by
  rw[z2r s t ht,zc]
  by_cases hv:valC s t=0
  case neg=>rw[zF hv,if_pos hv];rfl
  rw[zT hv,Bool.not_true,zD,if_neg (fun h=>h hv)]
  simp only[zyi,zc,z1o2 _ _ _ (show(t.size:Int)≤9223372036854775807 by omega),ziz t (by simp only[maxLen];omega),zyh t ht]
  have hz:(bs []).size=0:=rfl
  by_cases h1:s.2.2.1=1
  ·rw[zT h1,Bool.not_true,zD]
   unfold preC
   rw[if_pos h1]
   unfold conC at hcs⊢
   rcases zjx style s.2.1 with hh|hh|hh<;>rw[hh] at hcs⊢ <;>simp only[Int.reduceEq,decide_true,decide_false,zC,zD,if_true,if_false] at hcs⊢
   all_goals rw[zT (by omega),zC]
  ·rw[zF h1,Bool.not_false,zC]
   unfold preC at hps⊢
   rw[if_neg h1] at hps⊢
   unfold conC at hcs⊢
   rcases zjx style s.2.1 with hh|hh|hh<;>rw[hh] at hcs⊢ <;>simp only[Int.reduceEq,decide_true,decide_false,zC,zD,if_true,if_false] at hcs⊢
   all_goals rw[zT (by omega),zC]
 by_cases h1:style=1
 ·rw[zT h1,zC,zc,Bool.not_true,zD,if_neg (fun h=>h (.inl h1))]
  exact main (.inl h1)
 ·rw[zF h1,zD,zc]
  by_cases h2:style=2
  ·rw[zT h2,Bool.not_true,zD,if_neg (fun h=>h (.inr h2))]
   exact main (.inr h2)
  ·rw[zF h2,if_pos (fun h=>h.elim h1 h2)];rfl
end Groat

namespace Groat
open Go.IntKind renaming wrap→zW,i64→zI,u8→zU
open Go Go.Ref
theorem z1yq(x p y:ByteArray):(x++p++y).extract x.size (x.size+p.size)=p:=by
 apply z5f
 rw[z2c,z29,z29,List.append_assoc,←zg,←zg,List.take_append,List.drop_append_of_le_length (by simp),]
 simp
theorem z2z(x y:ByteArray):(x++y).size=x.size+y.size:=ByteArray.size_append ..
theorem z1fb(b:ByteArray){i j k:Nat}(h:i≤j)(h2:j≤k):b.extract i j++b.extract j k=b.extract i k:=by
 apply z5f
 rw[z29,z2c,z2c,z2c]
 generalize bl b=l
 have e1:l.take j=(l.take k).take j:=by rw[List.take_take];congr 1;omega
 rw[e1]
 generalize l.take k=q
 rw[←List.take_append_drop (j-i) (q.drop i),List.drop_take,List.drop_drop,show i+(j-i)=j by omega]
theorem z16d{s:ByteArray}{n:Int}(h:getD' (bl s)=(n,true)):putD n s.size=(s,true)∧0≤n:=by
 unfold getD' at h
 split at h
 ·rename_i hc
  obtain⟨h1,h2,h3⟩:=hc
  have hv:valD (bl s) 0=n:=congrArg Prod.fst h
  have hn:=(zz6 (bl s) 0 0 h3 (Int.le_refl _) (by simp) (by omega)).1
  rw[hv] at hn
  obtain⟨e1,e2⟩:=ztk (bl s).length n.toNat (bl s) h3 rfl (by rw[hv,Int.toNat_of_nonneg hn])
  rw[zg] at e1 e2 h1 h2
  refine⟨?_,hn⟩
  rw[zk7 ⟨hn,by omega,by omega,by rw[Int.toNat_natCast];exact e2⟩,Int.toNat_natCast,e1,z43]
 ·cases h
theorem z1o1{style form:Int}:preOk style form=true↔(style=1∨style=2)∧(form=2∨form=3):=by unfold preOk;rw[decide_eq_true_eq]
theorem z1hi{style form n:Int}{s:ByteArray}(hk:preOk style form=true)(h:preT style form s=some n)(hs:s.size=preS style form):z6i style form n=(s,0)∧0≤n:=by
 have hk2:=z1o1.1 hk
 unfold preT at h
 unfold preS at hs
 unfold z6i
 rw[hk,zC]
 by_cases h2:style=2
 ·rw[if_pos h2] at h hs⊢
  generalize hg:z1l s form=g at h
  obtain⟨t,e,i⟩:=g
  dsimp only at h
  split at h
  case isFalse=>cases h
  rename_i he
  subst he
  obtain⟨a1,a2,a3⟩:=z15m hg (by omega)
  split at h
  case isFalse=>cases h
  rename_i ho
  have hn:(getD' (bl t)).1=n:=by simpa using h
  obtain⟨c1,c2⟩:=z16d (s:=t) (n:=n) (by rw[←hn,←ho])
  rw[a2] at c1
  rw[c1,zC]
  dsimp only
  rw[a1]
  exact⟨rfl,c2⟩
 ·rw[if_neg h2] at h hs⊢
  split at h
  case isFalse=>cases h
  rename_i ho
  have hn:(getD' (bl s)).1=n:=by simpa using h
  obtain⟨c1,c2⟩:=z16d (s:=s) (n:=n) (by rw[←hn,←ho])
  rw[hs,Int.toNat_of_nonneg (by omega)] at c1
  rw[c1]
  exact⟨rfl,c2⟩
theorem z1o3{style form n z:Int}{b:ByteArray}{a:Nat}(h:z1j style form b a=(n,z,0)):preOk style form=true∧0≤n∧a≤b.size∧z=((a+preS style form:Nat):Int)∧a+preS style form≤b.size∧z6i style form n=(b.extract a (a+preS style form),0):=by
 unfold z1j at h
 cases hk:(preOk style form&&decide (0≤(a:Int)∧(a:Int)≤(b.size:Int))) with
 |false=>rw[hk] at h;cases h
 |true=>
  rw[hk,zC,Int.toNat_natCast] at h
  rw[Bool.and_eq_true,decide_eq_true_eq] at hk
  split at h
  ·cases h
  ·rename_i hs
   split at h
   ·rename_i m hm
    cases h
    obtain⟨c1,c2⟩:=z1hi hk.1 hm (z3z (by omega))
    exact⟨hk.1,c2,by omega,rfl,by omega,c1⟩
   ·cases h
theorem z1mk{style:Int}{s:Spec}{c t:ByteArray}{n:Nat}(hc:c.size=sizC (howC style s.2.1) n)(hn:n≤999)(h:conG (howC style s.2.1) c n= .inr t):conC (howC style s.2.1) t=c∧t.size=n:=by
 unfold conG at h
 unfold sizC at hc
 unfold conC
 rcases zjx style s.2.1 with hh|hh|hh<;>rw[hh] at h hc⊢ <;>simp only[Int.reduceEq,if_true,if_false] at h hc⊢
 ·injection h with h
  exact⟨h.symm,by rw[←h];exact hc⟩
 ·split at h
  case isFalse=>cases h
  rename_i he
  generalize hg:z1l c (n:Int)=g at h he
  obtain⟨t',e,i⟩:=g
  dsimp only at h he
  subst he
  injection h with h
  subst h
  obtain⟨a1,a2,a3⟩:=z15m hg (by omega)
  exact⟨by rw[a1],by omega⟩
 ·split at h
  case isFalse=>cases h
  rename_i he
  generalize hg:z22 c=g at h he
  obtain⟨t',i,ok⟩:=g
  dsimp only at h he
  subst he
  injection h with h
  subst h
  obtain⟨a1,a2⟩:=zjw hg
  exact⟨a1,by omega⟩
theorem zxz{style z:Int}{s:Spec}{b t:ByteArray}{a:Nat}(hb:b.size≤1099511627776)(h:z21 style s b a=(t,z,0)):(style=1∨style=2)∧valC s t=0∧(a:Int)≤z∧z≤b.size∧t.size≤999∧(z34 style s t).1=b.extract a z.toNat:=by
 unfold z21 at h
 split at h
 case isFalse=>cases h
 rename_i hc
 obtain⟨hs,v1,ha0,ha1⟩:=hc
 obtain⟨k1,k2,k3,k4,k5,k6,k7,k8,k9⟩:=z9h v1
 have body:∀(n p:Nat),n≤999→z2k (howC style s.2.1) s b n p=(t,z,0)→valC s t=0∧z=((p+sizC (howC style s.2.1) n:Nat):Int)∧p+sizC (howC style s.2.1) n≤b.size∧t.size=n∧conC (howC style s.2.1) t=b.extract p (p+sizC (howC style s.2.1) n):=by
  intro n p hn h
  unfold z2k at h
  split at h
  ·cases h
  ·rename_i hlt
   cases hg:conG (howC style s.2.1) (b.extract p (p+sizC (howC style s.2.1) n)) (n:Int) with
   |inl e=>
    rw[hg] at h
    replace h:(bs [],(0:Int),e)=(t,z,0):=h
    injection h with _ h
    injection h with _ h
    exfalso
    subst h
    unfold conG at hg
    split at hg
    ·split at hg
     ·cases hg
     ·rename_i hne
      injection hg with hg
      exact hne hg
    ·split at hg
     ·split at hg<;>cases hg
     ·cases hg
   |inr t'=>
    rw[hg] at h
    replace h:(if valC s t'=0 then(t',((p+sizC (howC style s.2.1) n:Nat):Int),(0:Int)) else(bs [],0,valC s t'))=(t,z,0):=h
    split at h
    ·rename_i hv
     cases h
     obtain⟨c1,c2⟩:=z1mk (z3z (by omega)) hn hg
     exact⟨hv,rfl,by omega,c2,c1⟩
    ·rename_i hv
     injection h with _ h
     injection h with _ h
     exact absurd h hv
 have fin:valC s t=0→(z34 style s t).1=preC style s.2.2.1 t.size++conC (howC style s.2.1) t:=fun hv=>by
  unfold z34
  rw[if_neg (fun h=>h hs),if_neg (fun h=>h hv)]
 unfold zxy at h
 by_cases hf:s.2.2.1=1
 ·rw[if_pos hf] at h
  obtain⟨b1,b2,b3,b4,b5⟩:=body _ _ (by omega) h
  rw[Int.toNat_natCast] at b2 b3 b5
  refine⟨hs,b1,by omega,by omega,by omega,?_⟩
  rw[fin b1,b5,b2,Int.toNat_natCast]
  unfold preC
  rw[if_pos hf,z1ar]
 ·rw[if_neg hf] at h
  split at h
  ·rename_i he
   unfold cellW at h
   injection h with _ h
   injection h with _ h
   exact absurd h he
  ·rename_i he
   split at h
   ·cases h
   ·rename_i hr
    generalize hg:z1j style s.2.2.1 b (a:Int)=g at h he hr
    obtain⟨n,z',e⟩:=g
    dsimp only at h he hr
    have he:e=0:=by
     by_cases e0:e=0
     ·exact e0
     ·exact absurd e0 he
    subst he
    obtain⟨q1,q2,q3,q4,q5,q6⟩:=z1o3 hg
    obtain⟨b1,b2,b3,b4,b5⟩:=body _ _ (by omega) h
    dsimp only at b2 b3 b5
    subst q4
    rw[Int.toNat_natCast] at b2 b3 b5
    refine⟨hs,b1,by omega,by omega,by omega,?_⟩
    rw[fin b1,b5,b2,Int.toNat_natCast]
    have hpc:preC style s.2.2.1 t.size=b.extract a (a+preS style s.2.2.1):=by
     unfold preC
     rw[if_neg hf,b4,Int.toNat_of_nonneg q2,q6]
    rw[hpc,z1fb _ (by omega) (by omega)]
end Groat

namespace Groat
open Go.IntKind renaming wrap→zW,i64→zI,u8→zU
open Go Go.Ref
def valF(n:Nat)(l:List Int):Nat:=l.foldl (fun n c=>n*256+c.toNat) n
def valB(l:List Int):Nat:=valF 0 l
def byB(x:Nat):List Int:=[((x/72057594037927936 % 256:Nat):Int),((x/281474976710656 % 256:Nat):Int),((x/1099511627776 % 256:Nat):Int),((x/4294967296 % 256:Nat):Int),((x/16777216 % 256:Nat):Int),((x/65536 % 256:Nat):Int),((x/256 % 256:Nat):Int),((x % 256:Nat):Int)]
theorem z14o{x:Nat}(h:x<18446744073709551616):valB (byB x)=x:=by
 simp only[valB,valF,byB,List.foldl,Int.toNat_natCast]
 omega
theorem eight{l:List Int}(h:l.length=8):∃a b c d e f g i,l=[a,b,c,d,e,f,g,i]:=by
 match l,h with
 | [a,b,c,d,e,f,g,i],_=>exact⟨a,b,c,d,e,f,g,i,rfl⟩
def zj6:Nat→Nat→List Int
 |0,_=>[]
 |m+1,x=>zj6 m (x/256)++ [((x % 256:Nat):Int)]
theorem z17d(l:List Int)(n:Nat)(c:Int):valF n (l++ [c])=valF n l*256+c.toNat:=by
 unfold valF;rw[List.foldl_append];rfl
theorem zxx:∀(m:Nat) (l:List Int),l.length=m→(∀y∈l,zq y)→zj6 m (valB l)=l∧valB l<256^m
 |0,l,h,_=>by
  have:=List.length_eq_zero_iff.1 h
  subst this
  exact⟨rfl,by decide⟩
 |m+1,l,h,hb=>by
  obtain⟨q,c,rfl⟩:∃q c,l=q++ [c]:=by
   rcases List.eq_nil_or_concat l with e|⟨q,c,e⟩
   ·rw[e] at h;cases h
   ·exact⟨q,c,by rw[e,List.concat_eq_append]⟩
  obtain⟨i1,i2⟩:=zxx m q (by rw[List.length_append,List.length_singleton] at h;omega) fun y hy=>hb y (List.mem_append_left _ hy)
  have hc:=hb c (List.mem_append_right _ (by simp))
  unfold zq at hc
  unfold valB at i1 i2⊢
  rw[z17d]
  generalize valF 0 q=v at i1 i2
  refine⟨?_,by rw[Nat.pow_succ];omega⟩
  rw[zj6,show(v*256+c.toNat)/256=v by omega,i1,show(v*256+c.toNat)% 256=c.toNat by omega,Int.toNat_of_nonneg hc.1]
theorem byB_N(x:Nat):byB x=zj6 8 x:=by
 simp only[zj6,byB,Nat.div_div_eq_div_mul,List.nil_append,List.cons_append]
theorem z7p{l:List Int}(h:l.length=8)(hb:∀y∈l,zq y):byB (valB l)=l∧valB l<18446744073709551616:=by
 obtain⟨h1,h2⟩:=zxx 8 l h hb
 rw[byB_N]
 exact⟨h1,by rw[show(256:Nat)^8=18446744073709551616 from by decide] at h2;exact h2⟩
theorem z1at(x:Nat):∀y∈byB x,zq y:=by
 intro y hy
 unfold byB at hy
 simp only[List.mem_cons,List.not_mem_nil,or_false] at hy
 unfold zq
 omega
theorem z1f9(x:Nat):(byB x).length=8:=rfl
theorem zec{x:Nat}(hx:x<18446744073709551616):byB x=[0,0,0,0,0,0,0,0]↔x=0:=by
 constructor
 ·intro h
  have:=z14o hx
  rw[h] at this
  rw[←this];rfl
 ·rintro rfl;rfl
theorem z1cz(n:Nat):zW zU (n:Int)=((n % 256:Nat):Int):=by
 simp [IntKind.wrap,IntKind.signed,IntKind.bits]
theorem z2t(k x:Nat)(j:Nat)(hj:j<8)(p q:List Int):Q8_l0 (k+1) (x:Int) (j:Int) p q=Q8_l0 k (x:Int) ((j+1:Nat):Int) p (q.set j ((x/2^(8*(7-j))% 256:Nat):Int)):=by
 have e1:zW zI ((7:Int)-(j:Int))=((7-j:Nat):Int):=by rw[zi (by omega) (by omega)];omega
 have e2:zW zI ((8:Int)*((7-j:Nat):Int))=((8*(7-j):Nat):Int):=by rw[zi (by omega) (by omega)];omega
 conv=>lhs;unfold Q8_l0 Q8_s1
 rw[zT (by omega),zC,e1,e2,zF (by omega),zD,zh hj,zad x _ (by omega),z1cz,zo (by omega),Int.toNat_natCast]
theorem z1mg(k x:Nat)(p q:List Int):Q8_l0 (k+1) (x:Int) ((8:Nat):Int) p q=some (p,q):=by
 unfold Q8_l0 Q8_s1
 rw[zF (by omega)];rfl
theorem ztj(x:Nat):Q8 (x:Int)=some (byB x):=by
 obtain⟨k,hk⟩:∃k,FUEL=k+9:=⟨FUEL-9,by rw[zn]⟩
 unfold Q8 Q8_s0
 dsimp only
 rw[hk,show(0:Int)=((0:Nat):Int) from rfl,z2t _ x 0 (by decide),z2t _ x 1 (by decide),z2t _ x 2 (by decide),z2t _ x 3 (by decide),z2t _ x 4 (by decide),z2t _ x 5 (by decide),z2t _ x 6 (by decide),z2t _ x 7 (by decide),z1mg,zc]
 unfold Q8_s2 byB
 simp
theorem z22e{n c:Nat}(hc:c<256):n*256|||c=n*256+c:=by
 have:=Nat.two_pow_add_eq_or_of_lt (i:=8) (b:=c) hc n
 rw[show(2:Nat)^8=256 from rfl,Nat.mul_comm 256 n] at this
 exact this.symm
theorem z15o(l:List Int)(hl:l.length=8)(hb:∀y∈l,zq y):∀(m j k n:Nat),j+m=8→m<k→n<256^j→Q7_l0 k (n:Int) l (j:Int)=some ((valF n (l.drop j):Nat):Int)
 |m,j,0,n,_,hk,_=>by omega
 |0,j,k+1,n,hj,hk,_=>by
  unfold Q7_l0 Q7_s1
  rw[zF (by omega),zD,List.drop_eq_nil_of_le (by omega)];rfl
 |m+1,j,k+1,n,hj,hk,hn=>by
  have hlt:j<l.length:=by omega
  have hc:=hb _ (List.getElem_mem hlt)
  unfold zq at hc
  have hg:l.getD j 0=l[j]:=by rw[List.getD_eq_getElem?_getD,List.getElem?_eq_getElem hlt];rfl
  have hp:(256:Nat)^j≤256^7:=Nat.pow_le_pow_right (by decide) (by omega)
  have hp7:(256:Nat)^7=72057594037927936:=by decide
  obtain⟨c,hcc⟩:∃c:Nat,l[j]=(c:Int):=⟨l[j].toNat,by omega⟩
  unfold Q7_l0 Q7_s1
  rw[zT (by omega),zC,zh (by omega),Int.toNat_natCast,hg,hcc,zo (by omega)]
  have e1:IntKind.u64.wrap ((n:Int)*2^min ((8:Int)).toNat 64)=((n*256:Nat):Int):=by
   have:((n:Int)*2^min ((8:Int)).toNat 64)=((n*256:Nat):Int):=by
    rw[show min ((8:Int)).toNat 64=8 from rfl,show(2:Int)^8=256 from by decide];omega
   rw[this];exact z9i (by omega)
  rw[e1,z9i (by omega),or64 (by omega) (by omega),z22e (by omega)]
  dsimp only
  have hnext:n*256+c<256^(j+1):=by rw[Nat.pow_succ];omega
  rw[z15o l hl hb m (j+1) k _ (by omega) (by omega) hnext,List.drop_eq_getElem_cons hlt,hcc]
  rfl
theorem z1f7(l:List Int)(hl:l.length=8)(hb:∀y∈l,zq y):Q7 l=some ((valB l:Nat):Int):=by
 unfold Q7 Q7_s0
 have:=z15o l hl hb 8 0 FUEL 0 (by omega) (by rw[zn];omega) (by decide)
 rw[show((0:Nat):Int)=0 from rfl,List.drop_zero] at this
 dsimp only
 rw[this];rfl
def szM(style:Int):Nat:=if style=1 then 16 else 8
def bmT(style:Int)(b:ByteArray)(a:Nat):Sum Int Nat:=
 if b.size<a+szM style then .inl 2 else if style=1 then(if(z22 (b.extract a (a+szM style))).2.2=true then .inr (valB (bl (z22 (b.extract a (a+szM style))).1)) else .inl 3) else .inr (valB (bl (b.extract a (a+szM style))))
def takeR(a:Nat)(style:Int):Sum Int Nat→List Int×Int×Int
 | .inl e=>(List.replicate 8 0,0,e)
 | .inr x=>(byB x,((a+szM style:Nat):Int),0)
theorem copy8{t:ByteArray}(h:t.size=8):putL (List.replicate 8 (0:Int)) (List.take 8 (z2n t)) 0=byB (valB (bl t)):=by
 have hl:(bl t).length=8:=by rw[zg];exact h
 rw[(z7p hl fun y hy=>z1a hy).1]
 have hbt:z2n t=bl t:=rfl
 rw[hbt]
 obtain⟨a,b,c,d,e,f,g,i,hq⟩:=eight hl
 rw[hq]
 rfl
theorem hex16{s t:ByteArray}{i:Int}(h:z22 s=(t,i,true))(hs:s.size=16):t.size=8:=by have:=(zjw h).2;omega
theorem z1g1(style:Int)(b:ByteArray)(a:Nat)(hb:b.size≤1099511627776)(ha:a≤b.size)(hs:style=1∨style=2):Q10 style b a=some (takeR a style (bmT style b a)):=by
 have w0:zW zI ((b.size:Int)-(a:Int))=(b.size:Int)-a:=zi (by omega) (by omega)
 have w8:zW zI ((a:Int)+8)=((a+8:Nat):Int):=by rw[zi (by omega) (by omega)];omega
 have w16:zW zI ((a:Int)+16)=((a+16:Nat):Int):=by rw[zi (by omega) (by omega)];omega
 have wm:zW zI ((8:Int)*2)=16:=by decide
 unfold Q10 zu6 bmT szM
 rcases hs with rfl|rfl
 ·simp only[Int.reduceEq,decide_true,zC,wm,w0,w16,if_true,Int.toNat_natCast]
  split
  ·rename_i hc
   rw[zT (by omega)];rfl
  ·rename_i hc
   rw[zF (by omega),zD,zT (by omega),zC,zT (by omega),zC,zT (by omega),zC,zT (by omega),zC,zyg _ (by rw[ByteArray.size_extract];omega),zc]
   generalize hg:z22 (b.extract a (a+16))=g
   obtain⟨t,i,ok⟩:=g
   cases ok with
   |false=>rfl
   |true=>
    have ht:=hex16 hg (z3z (by omega))
    dsimp only
    rw[Bool.not_true,zD,if_pos rfl,copy8 ht]
    rfl
 ·simp only[Int.reduceEq,decide_false,zD,w0,w8,if_false,Int.toNat_natCast]
  split
  ·rename_i hc
   rw[zT (by omega)];rfl
  ·rename_i hc
   rw[zF (by omega),zD,zT (by omega),zC,zT (by omega),zC,zT (by omega),zC,zT (by omega),zC,copy8 (z3z (by omega))]
   rfl
theorem zj5{style:Int}{b:ByteArray}{a x:Nat}(hs:style=1∨style=2)(h:bmT style b a= .inr x):x<18446744073709551616∧a+szM style≤b.size:=by
 unfold bmT szM at h
 unfold szM
 rcases hs with rfl|rfl
 ·simp only[if_true] at h⊢
  split at h
  ·cases h
  ·split at h
   case isFalse=>cases h
   rename_i hc ho
   injection h with h
   generalize hg:z22 (b.extract a (a+16))=g at h ho
   obtain⟨t,i,ok⟩:=g
   dsimp only at h ho
   subst ho
   have ht:=hex16 hg (z3z (by omega))
   rw[←h]
   exact⟨(z7p (by rw[zg];exact ht) fun y hy=>z1a hy).2,by omega⟩
 ·simp only[Int.reduceEq,if_false] at h⊢
  split at h
  ·cases h
  ·injection h with h
   rw[←h]
   exact⟨(z7p (by rw[zg];exact z3z (by omega)) fun y hy=>z1a hy).2,by omega⟩
def bm0(e:Int):Nat×Nat×Int×Int:=(0,0,0,e)
def bmGet(style:Int)(b:ByteArray)(at_:Int):Nat×Nat×Int×Int:=
 if(style=1∨style=2)∧0≤at_∧at_≤b.size then
  match bmT style b at_.toNat with
  | .inl e=>bm0 e
  | .inr x=>if x<9223372036854775808 then(x,0,((at_.toNat+szM style:Nat):Int),0) else
    match bmT style b (at_.toNat+szM style) with
    | .inl e=>bm0 e
    | .inr y=>if y=0 then bm0 8 else(x-9223372036854775808,y,((at_.toNat+szM style+szM style:Nat):Int),0)
 else bm0 1
def bmR(r:Nat×Nat×Int×Int):FSet×Int×Int:=(((r.1:Int),(r.2.1:Int),()),r.2.2.1,r.2.2.2)
theorem z1z9{x:Nat}(hx:x<18446744073709551616):decide (ibits .and .u64 (x:Int) (9223372036854775808:Int)=0)=decide (x<9223372036854775808):=by
 rw[show(9223372036854775808:Int)=((9223372036854775808:Nat):Int) from rfl,and64 hx (by decide)]
 apply decide_eq_decide.2
 have h:=za5 x 63
 rw[show(2:Nat)^63=9223372036854775808 from by decide] at h
 constructor
 ·intro e
  have e:x&&&9223372036854775808=0:=by omega
  have:=h.1 e
  rcases Nat.lt_or_ge x 9223372036854775808 with h1|h1
  ·exact h1
  ·have h2:x.testBit 63=true:=by
    rw[Nat.testBit_eq_decide_div_mod_eq]
    exact zT (by omega)
   rw[h2] at this;cases this
 ·intro e
  have:x.testBit 63=false:=Nat.testBit_lt_two_pow (by rw[show(2:Nat)^63=9223372036854775808 from by decide];exact e)
  have:=h.2 this
  omega
theorem z1za{x:Nat}(hx:x<18446744073709551616)(h:¬x<9223372036854775808):ibits .andNot .u64 (x:Int) (9223372036854775808:Int)=((x-9223372036854775808:Nat):Int):=by
 rw[show(9223372036854775808:Int)=((9223372036854775808:Nat):Int) from rfl,z1t8 hx (by decide)]
 have:x&&&(18446744073709551615-9223372036854775808)=x-9223372036854775808:=by
  have:=Nat.and_two_pow_sub_one_eq_mod x 63
  rw[show(2:Nat)^63-1=18446744073709551615-9223372036854775808 from by decide,show(2:Nat)^63=9223372036854775808 from by decide] at this
  omega
 rw[this]
theorem z1tg(style:Int)(b:ByteArray)(at_:Int)(hb:b.size≤1099511627776):Q5 style b at_=some (bmR (bmGet style b at_)):=by
 have hk:Q9 style=some (decide (style=1∨style=2)):=by
  unfold Q9 Q9_s0
  by_cases h1:style=1
  ·rw[zT (p:=style=1∨style=2) (.inl h1),zT h1];rfl
  ·rw[zF h1,zD]
   by_cases h2:style=2
   ·rw[zT (p:=style=1∨style=2) (.inr h2),zT h2]
   ·rw[zF (p:=style=1∨style=2) (fun h=>h.elim h1 h2),zF h2]
 unfold Q5 Q5_s0 bmGet
 rw[hk,zc]
 by_cases h1:style=1∨style=2
 case neg=>rw[zF h1,if_neg (fun h=>h1 h.1)];rfl
 rw[zT h1,Bool.not_true,zD]
 by_cases h3:at_<0
 ·rw[zT h3,if_neg (fun h=>by omega)];rfl
 rw[zF h3,zD]
 by_cases h4:(b.size:Int)<at_
 ·rw[zT h4,if_neg (fun h=>by omega)];rfl
 rw[zF h4,zD,if_pos ⟨h1,by omega,by omega⟩]
 obtain⟨m,rfl⟩:∃m:Nat,at_=m:=⟨at_.toNat,by omega⟩
 rw[Int.toNat_natCast,z1g1 style b m hb (by omega) h1,zc]
 cases hT:bmT style b m with
 |inl e=>
  have he:¬e=0:=by
   unfold bmT at hT
   split at hT
   ·cases hT;decide
   ·split at hT
    ·split at hT
     ·cases hT
     ·cases hT;decide
    ·cases hT
  show(bif(!(decide (e=0))) then _ else _)=_
  rw[zF he];rfl
 |inr x=>
  obtain⟨hx,hsz⟩:=zj5 h1 hT
  show(bif(!(decide ((0:Int)=0))) then _ else(Q7 (byB x)).bind _)=_
  rw[zT rfl,Bool.not_true,zD,z1f7 _ (z1f9 x) (z1at x),zc,z14o hx,z1z9 hx]
  by_cases hlt:x<9223372036854775808
  ·rw[zT hlt,zC]
   dsimp only
   rw[if_pos hlt];rfl
  ·rw[zF hlt,zD]
   dsimp only[takeR]
   rw[z1g1 style b (m+szM style) hb (by omega) h1,zc,if_neg hlt]
   cases hU:bmT style b (m+szM style) with
   |inl e=>
    have he:¬e=0:=by
     unfold bmT at hU
     split at hU
     ·cases hU;decide
     ·split at hU
      ·split at hU
       ·cases hU
       ·cases hU;decide
      ·cases hU
    show(bif(!(decide (e=0))) then _ else _)=_
    rw[zF he];rfl
   |inr y=>
    obtain⟨hy,hsy⟩:=zj5 h1 hU
    rw[show takeR (m+szM style) style (.inr y)=(byB y,((m+szM style+szM style:Nat):Int),(0:Int)) from rfl]
    dsimp only
    rw[zT rfl,Bool.not_true,zD]
    by_cases hz:y=0
    ·rw[zT ((zec hy).2 hz),zC]
     rw[if_pos hz];rfl
    ·rw[zF (fun h=>hz ((zec hy).1 h)),zD,z1f7 _ (z1f9 y) (z1at y),zc,z14o hy,z1za hx hlt]
     rw[if_neg hz];rfl
end Groat

namespace Groat
open Go.IntKind renaming wrap→zW,i64→zI,u8→zU
open Go Go.Ref
def encS(style:Int)(t:ByteArray):ByteArray:=if style=1 then z3p t else t
def wB(x:Nat):ByteArray:=strOf (byB x)
theorem z36(x:Nat):(wB x).size=8:=by unfold wB;rw[z1d];rfl
theorem zjk{style:Int}(x:Nat):(encS style (wB x)).size=szM style:=by
 unfold encS szM
 split
 ·rw[zbe,z36]
 ·exact z36 x
def bmPut(style:Int)(h l:Nat):ByteArray×Int:=
 if(style=1∨style=2)∧h<9223372036854775808 then((if l=0 then encS style (wB h) else encS style (wB (h+9223372036854775808))++encS style (wB l)),0) else(bs [],1)
theorem zrb:∀a b:List Int,hexP (a++b)=hexP a++hexP b
 | [],b=>rfl
 |x::r,b=>by rw[List.cons_append,hexP,hexP,zrb r b];rfl
theorem z17v(a b:ByteArray):z3p (a++b)=z3p a++z3p b:=by
 unfold z3p
 rw[z29,zrb,z6k]
theorem zr2(style:Int)(a b:ByteArray):encS style (a++b)=encS style a++encS style b:=by
 unfold encS
 split
 ·exact z17v a b
 ·rfl
theorem z1ff{h l:Nat}(hh:h<B64):hasN h l 1= !decide (h<9223372036854775808):=by
 have e:hasN h l 1=h.testBit 63:=by
  unfold hasN
  rw[if_pos (by decide)];rfl
 rw[e]
 rcases Nat.lt_or_ge h 9223372036854775808 with h1|h1
 ·rw[zT h1]
  exact Nat.testBit_lt_two_pow (by rw[show(2:Nat)^63=9223372036854775808 from by decide];exact h1)
 ·rw[zF (by omega),Nat.testBit_eq_decide_div_mod_eq]
  have hh:h<18446744073709551616:=hh
  exact zT (by omega)
theorem z1nx{h:Nat}(hh:h<9223372036854775808):h|||9223372036854775808=h+9223372036854775808:=by
 have:=Nat.two_pow_add_eq_or_of_lt (i:=63) (b:=h) (by rw[show(2:Nat)^63=9223372036854775808 from by decide];exact hh) 1
 rw[show(2:Nat)^63=9223372036854775808 from by decide,Nat.mul_one] at this
 rw[Nat.or_comm,←this,Nat.add_comm]
theorem z14n(x:ByteArray):x++bs []=x:=by
 apply ByteArray.ext
 simp [ByteArray.data_append,bs]
theorem z1th(style:Int)(h l:Nat)(hh:h<B64)(hl:l<B64):Q6 style ((h:Int),(l:Int),())=some (bmPut style h l):=by
 have hk:Q9 style=some (decide (style=1∨style=2)):=by
  unfold Q9 Q9_s0
  by_cases h1:style=1
  ·rw[zT (p:=style=1∨style=2) (.inl h1),zT h1];rfl
  ·rw[zF h1,zD]
   by_cases h2:style=2
   ·rw[zT (p:=style=1∨style=2) (.inr h2),zT h2]
   ·rw[zF (p:=style=1∨style=2) (fun h=>h.elim h1 h2),zF h2]
 unfold Q6 Q6_s0 bmPut
 rw[hk,zc]
 by_cases h1:style=1∨style=2
 case neg=>rw[zF h1,if_neg (fun h=>h1 h.1)];rfl
 rw[zT h1,Bool.not_true,zD,z1zd h l hh hl,zc,z1ff hh]
 by_cases h2:h<9223372036854775808
 case neg=>rw[zF h2,if_neg (fun h=>h2 h.2)];rfl
 rw[zT h2,Bool.not_true,zD,if_pos ⟨h1,h2⟩]
 have hH:Q36 ((h:Int),(l:Int),())=some ((h:Int),(l:Int)):=rfl
 rw[hH,zc]
 dsimp only
 rw[ztj,zc]
 have z8:∀x:Nat,Nat.beq 8 (List.length (byB x))=true:=fun x=>rfl
 have fin:∀t:ByteArray,t.size≤16→(bif decide (style=1) then(Q171 t).bind fun r6=>some (r6,(0:Int)) else some (t,0))=some (encS style t,0):=fun t ht=>by
  unfold encS
  by_cases hs:style=1
  ·rw[zT hs,zC,zyh t (by omega),if_pos hs];rfl
  ·rw[zF hs,if_neg hs];rfl
 by_cases hz:l=0
 ·rw[zT ((zec hl).2 hz),if_pos hz,Bool.not_true,zD,ztj,zc,z8,zC]
  have hsz:(strOf (byB h)).size=8:=z36 h
  rw[zT (by rw[hsz];decide),zC,z14n]
  exact fin (wB h) (by rw[z36];decide)
 ·have hor:ibits .or .u64 (h:Int) (9223372036854775808:Int)=((h+9223372036854775808:Nat):Int):=by
   rw[show(9223372036854775808:Int)=((9223372036854775808:Nat):Int) from rfl,or64 hh (by decide),z1nx h2]
  rw[zF (fun e=>hz ((zec hl).1 e)),if_neg hz,Bool.not_false,zC,z8,zC,hor,ztj,zc,z8,zC]
  have hsz:∀x,(strOf (byB x)).size=8:=fun x=>z36 x
  rw[zT (by rw[hsz,hsz];decide),zC,←zr2]
  exact fin (wB _++wB l) (by rw[z2z,z36,z36];decide)
theorem z1yr(b:ByteArray){a:Nat}{style:Int}(h:a+szM style≤b.size):(b.extract a (a+szM style)).size=szM style:=z3z h
theorem z15p{style:Int}{b:ByteArray}{a v:Nat}(hs:style=1∨style=2)(h:bmT style b a= .inr v):encS style (wB v)=b.extract a (a+szM style)∧v<18446744073709551616∧a+szM style≤b.size:=by
 obtain⟨h1,h2⟩:=zj5 hs h
 refine⟨?_,h1,h2⟩
 have hz:=z1yr b h2
 unfold bmT at h
 rw[if_neg (by omega)] at h
 unfold encS wB
 rcases hs with rfl|rfl
 ·rw[if_pos rfl] at h⊢
  split at h
  case isFalse=>cases h
  rename_i ho
  generalize hg:z22 (b.extract a (a+szM 1))=g at h ho
  obtain⟨t,i,ok⟩:=g
  dsimp only at h ho
  subst ho
  injection h with h
  have ht:=hex16 hg hz
  obtain⟨e1,_⟩:=z7p (l:=bl t) (by rw[zg];exact ht) fun y hy=>z1a hy
  rw[←h,e1,z43,(zjw hg).1]
 ·rw[if_neg (by decide)] at h⊢
  injection h with h
  obtain⟨e1,_⟩:=z7p (l:=bl (b.extract a (a+szM 2))) (by rw[zg];exact hz) fun y hy=>z1a hy
  rw[←h,e1,z43]
theorem zti{style:Int}{h l:Nat}(hs:style=1∨style=2)(hh:h<9223372036854775808):bmPut style h l=((if l=0 then encS style (wB h) else encS style (wB (h+9223372036854775808))++encS style (wB l)),0):=by
 unfold bmPut
 rw[if_pos ⟨hs,hh⟩]
theorem z1ti{style z:Int}{b:ByteArray}{a h l:Nat}(hg:bmGet style b a=(h,l,z,0)):(style=1∨style=2)∧h<9223372036854775808∧l<18446744073709551616∧(a:Int)≤z∧z≤b.size∧(bmPut style h l).1=b.extract a z.toNat:=by
 unfold bmGet at hg
 split at hg
 case isFalse=>cases hg
 rename_i hc
 obtain⟨hs,h0,h1⟩:=hc
 rw[Int.toNat_natCast] at hg
 cases hT:bmT style b a with
 |inl e=>
  exfalso
  rw[hT] at hg
  have he:e=0:=by
   have:=congrArg (fun r:Nat×Nat×Int×Int=>r.2.2.2) hg
   exact this
  subst he
  unfold bmT at hT
  split at hT
  ·cases hT
  ·split at hT
   ·split at hT<;>cases hT
   ·cases hT
 |inr x=>
  rw[hT] at hg
  obtain⟨e1,e2,e3⟩:=z15p hs hT
  dsimp only at hg
  split at hg
  ·rename_i hlt
   injection hg with g1 g2
   injection g2 with g2 g3
   injection g3 with g3 _
   subst g1 g2 g3
   refine⟨hs,hlt,by decide,by omega,by omega,?_⟩
   rw[zti hs hlt,if_pos rfl,e1,Int.toNat_natCast]
  ·rename_i hge
   cases hU:bmT style b (a+szM style) with
   |inl e=>
    exfalso
    rw[hU] at hg
    have he:e=0:=by
     have:=congrArg (fun r:Nat×Nat×Int×Int=>r.2.2.2) hg
     exact this
    subst he
    unfold bmT at hU
    split at hU
    ·cases hU
    ·split at hU
     ·split at hU<;>cases hU
     ·cases hU
   |inr y=>
    rw[hU] at hg
    obtain⟨f1,f2,f3⟩:=z15p hs hU
    dsimp only at hg
    split at hg
    ·exfalso
     have:=congrArg (fun r:Nat×Nat×Int×Int=>r.2.2.2) hg
     cases this
    ·rename_i hz
     injection hg with g1 g2
     injection g2 with g2 g3
     injection g3 with g3 _
     subst g1 g2 g3
     refine⟨hs,by omega,f2,by omega,by omega,?_⟩
     rw[zti hs (by omega),if_neg hz,show x-9223372036854775808+9223372036854775808=x by omega,e1,f1,Int.toNat_natCast]
     exact z1fb _ (by omega) (by omega)
end Groat

set_option maxRecDepth 10000
namespace Groat
open Go.IntKind renaming wrap→zW,i64→zI,u8→zU
open Go Go.Ref
@[irreducible] def pL (x base m:Nat):List Int:=((List.range m).filter fun k=>x.testBit (63-k)).map fun k=>((base+k:Nat):Int)
theorem z1z4(x base m:Nat):pL x base (m+1)=if x.testBit (63-m)=true then pL x base m++ [((base+m:Nat):Int)] else pL x base m:=by
 unfold pL
 rw[List.range_succ,List.filter_append,List.map_append]
 split
 ·rename_i h;rw[List.filter_cons_of_pos (by exact h)];rfl
 ·rename_i h;rw[List.filter_cons_of_neg (by exact h)];simp
theorem z1cb(x base m:Nat):(pL x base m).length≤m:=by
 unfold pL
 rw[List.length_map]
 exact Nat.le_trans (List.length_filter_le _ _) (by rw[List.length_range];exact Nat.le_refl _)
theorem zr0(h l:Nat):elems h l=pL h 1 64++pL l 65 64:=by
 unfold elems nums pL
 rw[List.filter_map,show(128:Nat)=64+64 from rfl,List.range_add,List.filter_append,List.map_append,List.filter_map,List.map_map]
 congr 1
 ·have:(List.range 64).filter (hasN h l∘fun k:Nat=>((k+1:Nat):Int))=(List.range 64).filter fun k=>h.testBit (63-k):=List.filter_congr fun k hk=>by
   have hk:=List.mem_range.1 hk
   show hasN h l ((k+1:Nat):Int)=_
   unfold hasN
   rw[if_pos (by omega),show(64-((k+1:Nat):Int)).toNat=63-k by omega]
  rw[this]
  apply List.map_congr_left
  intro k _
  rw[Nat.add_comm]
 ·have:(List.range 64).filter ((hasN h l∘fun k:Nat=>((k+1:Nat):Int))∘fun k=>64+k)=(List.range 64).filter fun k=>l.testBit (63-k):=List.filter_congr fun k hk=>by
   have hk:=List.mem_range.1 hk
   show hasN h l ((64+k+1:Nat):Int)=_
   unfold hasN
   rw[if_neg (by omega),if_pos (by omega),show(128-((64+k+1:Nat):Int)).toNat=63-k by omega]
  rw[this]
  apply List.map_congr_left
  intro k _
  show((64+k+1:Nat):Int)=_
  rw[show 64+k+1=65+k by omega]
def onE(k:Nat):Nat:=if k<8 then 2^(7-k) else 0
theorem byteK:∀c:Fin 256,∀k:Fin 8,(onE k.1=2^(7-k.1))∧(decide ((onE k.1:Int)≤((c.1 % 2^(8-k.1):Nat):Int))=c.1.testBit (7-k.1))∧(c.1.testBit (7-k.1)=true→zW zU (((c.1 % 2^(8-k.1):Nat):Int)-(onE k.1:Int))=((c.1 % 2^(8-(k.1+1)):Nat):Int))∧(c.1.testBit (7-k.1)=false→c.1 % 2^(8-k.1)=c.1 % 2^(8-(k.1+1)))∧zW zU (Int.tdiv (onE k.1:Int) 2)=(onE (k.1+1):Int):=by decide+kernel
theorem z1au(x i k:Nat)(hi:i<8)(hk:k<8):(x/2^(56-8*i)% 256).testBit (7-k)=x.testBit (63-(8*i+k)):=by
 rw[show(256:Nat)=2^8 from rfl,Nat.testBit_mod_two_pow,zT (by omega),Bool.true_and,Nat.testBit_div_two_pow]
 congr 1
 omega
theorem z1fu(x:Nat)(t:ByteArray)(base i:Nat)(hi:i<8)(hbase:base≤65):∀(m k K:Nat),k+m=8→m<K→
 za2 K (base:Int) t (pL x base (8*i+k)) (i:Int) ((x/2^(56-8*i)% 256 % 2^(8-k):Nat):Int) (onE k:Int) (k:Int)=some ((base:Int),t,pL x base (8*i+8),(i:Int))
 |m,k,0,_,hK=>by omega
 |0,k,K+1,hk,hK=>by
  have:k=8:=by omega
  subst this
  unfold za2 zip
  rw[zF (by omega)];rfl
 |m+1,k,K+1,hk,hK=>by
  have hk8:k<8:=by omega
  have hc:x/2^(56-8*i)% 256<256:=Nat.mod_lt _ (by decide)
  obtain⟨b1,b2,b3,b4,b5⟩:=byteK ⟨_,hc⟩ ⟨k,hk8⟩
  simp only at b1 b2 b3 b4 b5
  have ih:=z1fu x t base i hi hbase m (k+1) K (by omega) (by omega)
  have hl:=z1cb x base (8*i+k)
  have e1:zW zI ((8:Int)*(i:Int))=((8*i:Nat):Int):=by rw[zi (by omega) (by omega)];omega
  have e2:zW zI ((base:Int)+((8*i:Nat):Int))=((base+8*i:Nat):Int):=by rw[zi (by omega) (by omega)];omega
  have e3:zW zI (((base+8*i:Nat):Int)+(k:Int))=((base+(8*i+k):Nat):Int):=by rw[zi (by omega) (by omega)];omega
  unfold za2 zip
  rw[zT (by omega),zC,b2,e1,e2,e3,b5,zo (by omega),z1au x i k hi hk8]
  have ps:=z1z4 x base (8*i+k)
  rw[Nat.add_assoc] at ps
  have hbb:=z1au x i k hi hk8
  cases hb:x.testBit (63-(8*i+k)) with
  |true=>
   rw[hb] at ps hbb
   rw[if_pos rfl] at ps
   rw[zC,zT (by simp only[List.length_singleton];omega),zC,b3 hbb]
   dsimp only
   rw[←ps]
   exact ih
  |false=>
   rw[hb] at ps hbb
   rw[if_neg (by decide)] at ps
   rw[zD,b4 hbb]
   dsimp only
   rw[←ps]
   exact ih
theorem z1cg(x:Nat)(t:ByteArray)(ht:t.size=8)(hbt:∀i,i<8→ze t i=((x/2^(56-8*i)% 256:Nat):Int))(base:Nat)(hbase:base≤65):∀(m i K:Nat),i+m=8→m<K→
 z7v K (base:Int) t (pL x base (8*i)) (i:Int)=some (pL x base 64)
 |m,i,0,_,hK=>by omega
 |0,i,K+1,hi,hK=>by
  have:i=8:=by omega
  subst this
  unfold z7v zio
  rw[zF (by omega)];rfl
 |m+1,i,K+1,hi,hK=>by
  have h1:=z1fu x t base i (by omega) hbase 8 0 FUEL (by omega) (by rw[zn];omega)
  have e0:x/2^(56-8*i)% 256 % 2^(8-0)=x/2^(56-8*i)% 256:=Nat.mod_mod _ _
  rw[e0,show(onE 0:Int)=128 from rfl,Nat.add_zero] at h1
  unfold z7v zio
  rw[zT (by omega),zC,zh (by omega),Int.toNat_natCast,hbt i (by omega)]
  dsimp only
  rw[show(0:Int)=((0:Nat):Int) from rfl,h1,zc]
  unfold zxj
  dsimp only
  rw[zo (by omega)]
  exact z1cg x t ht hbt base hbase m (i+1) K (by omega) (by omega)
theorem z1ye{t:ByteArray}(ht:t.size=8):∀i,i<8→ze t i=((valB (bl t)/2^(56-8*i)% 256:Nat):Int):=by
 intro i hi
 have hl:(bl t).length=8:=by rw[zg];exact ht
 have h:=(z7p hl fun y hy=>z1a hy).1
 have e:(bl t).getD i 0=(byB (valB (bl t))).getD i 0:=congrArg (fun l=>List.getD l i 0) h.symm
 rw[z1h,e]
 generalize valB (bl t)=v
 match i,hi with
 |0,_=>rfl
 |1,_=>rfl
 |2,_=>rfl
 |3,_=>rfl
 |4,_=>rfl
 |5,_=>rfl
 |6,_=>rfl
 |7,_=>show((v % 256:Nat):Int)=((v/1 % 256:Nat):Int);rw[Nat.div_one]
def partR(base:Nat):Sum Int Nat→List Int×Int
 | .inl e=>([],e)
 | .inr x=>(pL x base 64,0)
theorem z1ft(style:Int)(b:ByteArray)(a base:Nat)(hb:b.size≤1099511627776)(ha:a≤b.size)(hs:style=1∨style=2)(hbase:base≤65):Q91 style b a base=some (partR base (bmT style b a)):=by
 have w0:zW zI ((b.size:Int)-(a:Int))=(b.size:Int)-a:=zi (by omega) (by omega)
 have w8:zW zI ((a:Int)+8)=((a+8:Nat):Int):=by rw[zi (by omega) (by omega)];omega
 have w16:zW zI ((a:Int)+16)=((a+16:Nat):Int):=by rw[zi (by omega) (by omega)];omega
 have go:∀t:ByteArray,t.size=8→((z7v FUEL (base:Int) t [] 0).bind fun e=>zxi e (fun a0 a1=>some (a0,a1)))=some (pL (valB (bl t)) base 64,0):=fun t ht=>by
  have:=z1cg (valB (bl t)) t ht (z1ye ht) base hbase 8 0 FUEL (by omega) (by rw[zn];omega)
  rw[show pL (valB (bl t)) base (8*0)=[] from by unfold pL;rfl,show((0:Nat):Int)=0 from rfl] at this
  rw[this];rfl
 unfold Q91 zd8 bmT szM
 rcases hs with rfl|rfl
 ·simp only[Int.reduceEq,decide_true,zC,w0,w16,if_true,Int.toNat_natCast]
  split
  ·rename_i hc
   rw[zT (by omega)];rfl
  ·rename_i hc
   rw[zF (by omega),zD,zT (by omega),zC,zT (by omega),zC,zT (by omega),zC,zT (by omega),zC,z183 _ (by rw[ByteArray.size_extract];omega),zc]
   generalize hg:z22 (b.extract a (a+16))=g
   obtain⟨t,i,ok⟩:=g
   cases ok with
   |false=>rfl
   |true=>
    have ht:=hex16 hg (z3z (by omega))
    dsimp only
    rw[Bool.not_true,zD,if_pos rfl,go t ht]
    rfl
 ·simp only[Int.reduceEq,decide_false,zD,w0,w8,if_false,Int.toNat_natCast]
  split
  ·rename_i hc
   rw[zT (by omega)];rfl
  ·rename_i hc
   rw[zF (by omega),zD,zT (by omega),zC,zT (by omega),zC,zT (by omega),zC,zT (by omega),zC,go _ (z3z (by omega))]
   rfl
theorem zqg{style e:Int}{b:ByteArray}{a:Nat}(h:bmT style b a= .inl e):e≠0:=by
 unfold bmT at h
 split at h
 ·cases h;decide
 ·split at h
  ·split at h
   ·cases h
   ·cases h;decide
  ·cases h
theorem z1fr(base m:Nat):pL 0 base m=[]:=by
 unfold pL
 rw[List.filter_eq_nil_iff.2 (fun k _=>by simp)];rfl
theorem z1fq(x:Nat)(hx:x<18446744073709551616):(x<9223372036854775808→∀y∈pL x 1 64,y≠1)∧(¬x<9223372036854775808→pL x 1 64=1::pL (x-9223372036854775808) 1 64):=by
 refine⟨fun h y hy e=> ?_,fun h=> ?_⟩
 ·unfold pL at hy
  obtain⟨k,hk,rfl⟩:=List.mem_map.1 hy
  obtain⟨h1,h2⟩:=List.mem_filter.1 hk
  have:k=0:=by omega
  subst this
  have:x.testBit 63=false:=Nat.testBit_lt_two_pow (by rw[show(2:Nat)^63=9223372036854775808 from by decide];exact h)
  rw[Nat.sub_zero,this] at h2;cases h2
 ·have hm:x-9223372036854775808=x % 2^63:=by rw[show(2:Nat)^63=9223372036854775808 from by decide];omega
  have t1:x.testBit 63=true:=by rw[Nat.testBit_eq_decide_div_mod_eq];exact zT (by omega)
  have t2:(x % 2^63).testBit 63=false:=by rw[Nat.testBit_mod_two_pow];rfl
  rw[hm]
  unfold pL
  rw[show(64:Nat)=63+1 from rfl,List.range_succ_eq_map,List.filter_cons_of_pos (by exact t1),List.filter_cons_of_neg (by rw[Nat.sub_zero,t2];decide),List.map_cons]
  have hf:List.filter (fun k=>x.testBit (63-k)) ((List.range 63).map Nat.succ)=List.filter (fun k=>(x % 2^63).testBit (63-k)) ((List.range 63).map Nat.succ):=by
   apply List.filter_congr
   intro k hk
   obtain⟨j,hj,rfl⟩:=List.mem_map.1 hk
   have hj:=List.mem_range.1 hj
   rw[Nat.testBit_mod_two_pow,zT (by omega),Bool.true_and]
  rw[hf]
  rfl
theorem bif_t{α:Type}{p:Prop}[Decidable p](h:p){x y:α}:(bif decide p then x else y)=x:=by rw[zT h];rfl
theorem bif_f{α:Type}{p:Prop}[Decidable p](h:¬p){x y:α}:(bif decide p then x else y)=y:=by rw[zF h];rfl
theorem za7{α:Type}{p:Prop}[Decidable p](h:p){x y:α}:(bif !decide p then x else y)=y:=by rw[zT h];rfl
theorem zdc{α:Type}{p:Prop}[Decidable p](h:¬p){x y:α}:(bif !decide p then x else y)=x:=by rw[zF h];rfl
def get06(r:Nat×Nat×Int×Int):List Int×Int×Int:=if r.2.2.2=0 then(elems r.1 r.2.1,r.2.2.1,0) else([],0,r.2.2.2)
theorem z1bg(h l:Nat)(z:Int):get06 (h,l,z,0)=(elems h l,z,0):=by
 unfold get06
 simp only[if_true]
theorem zjt{e:Int}(he:e≠0):get06 (bm0 e)=([],0,e):=by
 unfold get06 bm0
 simp only[he,if_false]
def G06(P2:Option (List Int×Int))(z1 z2:Int)(r1:List Int×Int):Option (List Int×Int×Int):=(bif(!(decide (r1.2=(0:Int)))) then some (([]:List Int),(0:Int),r1.2) else(bif(decide (((List.length r1.1):Int)=(0:Int))) then some (r1.1,z1,(0:Int)) else(zd (0:Int) (List.length r1.1) (bif(!(decide ((List.getD r1.1 ((0:Int)).toNat (0:Int))=(1:Int)))) then some (r1.1,z1,(0:Int)) else(P2.bind fun r2=>(bif(!(decide (r2.2=(0:Int)))) then some (([]:List Int),(0:Int),r2.2) else(bif(decide (((List.length r2.1):Int)=(0:Int))) then some (([]:List Int),(0:Int),(8:Int)) else(bif(decide ((1:Int)≤(((List.length r1.1):Nat):Int))) then(bif(decide (((List.length ([]:List Int))+(List.length (List.drop ((1:Int)).toNat (List.take (List.length r1.1) r1.1))))*8≤140737488355328)) then(bif(decide (((List.length (([]:List Int)++(List.drop ((1:Int)).toNat (List.take (List.length r1.1) r1.1))))+(List.length r2.1))*8≤140737488355328)) then some (((([]:List Int)++(List.drop ((1:Int)).toNat (List.take (List.length r1.1) r1.1)))++r2.1),z2,(0:Int)) else none) else none) else none))))))))
theorem z1va{P2:Option (List Int×Int)}{z1 z2 e:Int}(he:e≠0):G06 P2 z1 z2 ([],e)=some ([],0,e):=zdc he
theorem z1hz{P2:Option (List Int×Int)}{z1 z2:Int}{l:List Int}(h:∀y∈l,y≠1):G06 P2 z1 z2 (l,0)=some (l,z1,0):=by
 refine(za7 (p:=(0:Int)=0) rfl).trans ?_
 cases l with
 |nil=>rfl
 |cons y r=>
  refine(bif_f (by simp only[List.length_cons];omega)).trans ?_
  refine(show zd (0:Int) (r.length+1) _=_ from zh (j:=0) (by omega)).trans ?_
  exact zdc (h y List.mem_cons_self)
theorem zrq{r2:List Int×Int}{z1 z2:Int}{l:List Int}:G06 (some r2) z1 z2 (1::l,0)=bif(!(decide (r2.2=(0:Int)))) then some (([]:List Int),(0:Int),r2.2) else bif decide (((List.length r2.1):Int)=(0:Int)) then some (([]:List Int),(0:Int),(8:Int)) else(bif(decide ((1:Int)≤(((List.length ((1:Int)::l)):Nat):Int))) then(bif(decide (((List.length ([]:List Int))+(List.length (List.drop ((1:Int)).toNat (List.take (List.length ((1:Int)::l)) ((1:Int)::l)))))*8≤140737488355328)) then(bif(decide (((List.length (([]:List Int)++(List.drop ((1:Int)).toNat (List.take (List.length ((1:Int)::l)) ((1:Int)::l)))))+(List.length r2.1))*8≤140737488355328)) then some (((([]:List Int)++(List.drop ((1:Int)).toNat (List.take (List.length ((1:Int)::l)) ((1:Int)::l))))++r2.1),z2,(0:Int)) else none) else none) else none):=by
 refine(za7 (p:=(0:Int)=0) rfl).trans ?_
 refine(bif_f (by simp only[List.length_cons];omega)).trans ?_
 refine(show zd (0:Int) (l.length+1) _=_ from zh (j:=0) (by omega)).trans ?_
 exact za7 (p:=(1:Int)=1) rfl
theorem z1pa{z1 z2 e:Int}{l:List Int}(he:e≠0):G06 (some ([],e)) z1 z2 (1::l,0)=some ([],0,e):=zrq.trans (zdc he)
theorem z1pb{z1 z2:Int}{l:List Int}:G06 (some ([],0)) z1 z2 (1::l,0)=some ([],0,8):=zrq.trans rfl
theorem z1p9{z1 z2:Int}{l l2:List Int}(h:l2≠ [])(h1:l.length≤64)(h2:l2.length≤64):G06 (some (l2,0)) z1 z2 (1::l,0)=some (l++l2,z2,0):=by
 have hlen:l2.length≠0:=fun e=>h (List.length_eq_zero_iff.1 e)
 refine zrq.trans ?_
 refine(za7 (p:=(0:Int)=0) rfl).trans ?_
 refine(bif_f (by dsimp only;omega)).trans ?_
 refine(bif_t (by simp only[List.length_cons];omega)).trans ?_
 have hdrop:List.drop ((1:Int)).toNat ((1:Int)::l)=l:=rfl
 simp only[List.take_length,hdrop,List.nil_append]
 refine(bif_t (by simp only[List.length_nil];omega)).trans ?_
 exact bif_t (by omega)
theorem z1z3{y:Nat}(hy:y<18446744073709551616)(hz:y≠0):pL y 65 64≠ []:=fun e=>hz (by
 have:(∀i,y.testBit i=false):=fun i=>by
  by_cases hi:i<64
  ·cases hb2:y.testBit i with
   |false=>rfl
   |true=>
    have:((65+(63-i):Nat):Int)∈pL y 65 64:=by
     unfold pL
     exact List.mem_map.2 ⟨63-i,List.mem_filter.2 ⟨List.mem_range.2 (by omega),by rw[show 63-(63-i)=i by omega];exact hb2⟩,rfl⟩
    rw[e] at this;cases this
  ·exact Nat.testBit_lt_two_pow (Nat.lt_of_lt_of_le hy (by rw[show(18446744073709551616:Nat)=2^64 from by decide];exact Nat.pow_le_pow_right (by decide) (by omega)))
 exact Nat.eq_of_testBit_eq fun i=>by rw[this i,Nat.zero_testBit])
theorem z1nl(style:Int)(b:ByteArray)(hb:b.size≤1099511627776)(m:Nat)(hm:m≤b.size)(hs:style=1∨style=2):((Q91 style b m (1:Int)).bind fun r1=>G06 (Q91 style b ((m+szM style:Nat):Int) (65:Int)) ((m+szM style:Nat):Int) ((m+szM style+szM style:Nat):Int) r1)=some (get06 (match bmT style b m with
 | .inl e=>bm0 e
 | .inr x=>if x<9223372036854775808 then(x,0,((m+szM style:Nat):Int),0) else
   match bmT style b (m+szM style) with
   | .inl e=>bm0 e
   | .inr y=>if y=0 then bm0 8 else(x-9223372036854775808,y,((m+szM style+szM style:Nat):Int),0))):=by
 have p1:=z1ft style b m 1 hb hm hs (by decide)
 rw[show((1:Nat):Int)=1 from rfl] at p1
 refine(congrArg (fun z=>Option.bind z _) p1).trans ?_
 cases hT:bmT style b m with
 |inl e=>exact(z1va (zqg hT)).trans (congrArg some (zjt (zqg hT)).symm)
 |inr x=>
  obtain⟨hx,hxs⟩:=zj5 hs hT
  by_cases hlt:x<9223372036854775808
  ·simp only[hlt,if_true]
   have hel:elems x 0=pL x 1 64:=by rw[zr0,z1fr,List.append_nil]
   exact(z1hz ((z1fq x hx).1 hlt)).trans (congrArg some (by rw[z1bg,hel]))
  ·simp only[hlt,if_false]
   have ph:=(z1fq x hx).2 hlt
   have p2:=z1ft style b (m+szM style) 65 hb (by omega) hs (by decide)
   rw[show((65:Nat):Int)=65 from rfl] at p2
   have hel:=zr0 (x-9223372036854775808)
   have hl1:=z1cb (x-9223372036854775808) 1 64
   generalize x-9223372036854775808=x' at ph hel hl1
   refine(congrArg (fun z=>G06 z _ _ _) p2).trans ?_
   refine(congrArg (fun z=>G06 _ _ _ (z,0)) ph).trans ?_
   cases hU:bmT style b (m+szM style) with
   |inl e=>exact(z1pa (zqg hU)).trans (congrArg some (zjt (zqg hU)).symm)
   |inr y=>
    obtain⟨hy,hys⟩:=zj5 hs hU
    by_cases hz:y=0
    ·simp only[hz,if_true]
     have e0:partR 65 (.inr 0)=([],0):=by
      show(pL 0 65 64,(0:Int))=_
      rw[z1fr]
     refine(congrArg (fun z=>G06 (some z) _ _ _) e0).trans ?_
     exact z1pb.trans (congrArg some (zjt (by decide)).symm)
    ·simp only[hz,if_false]
     exact(z1p9 (z1z3 hy hz) hl1 (z1cb y 65 64)).trans (congrArg some (by rw[z1bg,hel]))
theorem z1pc(style:Int)(b:ByteArray)(at_:Int)(hb:b.size≤1099511627776):Q88 style b at_=some (get06 (bmGet style b at_)):=by
 unfold Q88 zxa bmGet
 by_cases h0:at_<0
 ·rw[zT h0,if_neg (fun h=>by omega)]
  by_cases h1:style=1<;>by_cases h2:style=2<;>simp [h1,h2,get06,bm0]
 by_cases h9:(b.size:Int)<at_
 ·rw[zF h0,zT h9,if_neg (fun h=>by omega)]
  by_cases h1:style=1<;>by_cases h2:style=2<;>simp [h1,h2,get06,bm0]
 obtain⟨m,rfl⟩:∃m:Nat,at_=m:=⟨at_.toNat,by omega⟩
 rw[zF h0,zF h9]
 have wr:∀z:Nat,z≤64→zW zI ((m:Int)+(z:Int))=((m+z:Nat):Int):=fun z hz=>by rw[zi (by omega) (by omega)];omega
 by_cases h1:style=1
 ·rw[zT h1,if_pos ⟨.inl h1,by omega,by omega⟩,Int.toNat_natCast]
  have hz:szM style=16:=by rw[h1];rfl
  have:=z1nl style b hb m (by omega) (.inl h1)
  rw[show m+szM style+szM style=m+32 by omega,hz,←wr 16 (by decide),←wr 32 (by decide)] at this
  rw[show m+szM style+szM style=m+32 by omega,hz,←wr 16 (by decide),←wr 32 (by decide)]
  exact this
 ·by_cases h2:style=2
  ·rw[zF h1,zT h2,if_pos ⟨.inr h2,by omega,by omega⟩,Int.toNat_natCast]
   have hz:szM style=8:=by rw[h2];rfl
   have:=z1nl style b hb m (by omega) (.inr h2)
   rw[show m+szM style+szM style=m+16 by omega,hz,←wr 8 (by decide),←wr 16 (by decide)] at this
   rw[show m+szM style+szM style=m+16 by omega,hz,←wr 8 (by decide),←wr 16 (by decide)]
   exact this
  ·rw[zF h1,zF h2,if_neg (fun h=>h.1.elim h1 h2)];rfl
end Groat

namespace Groat
open Go.IntKind renaming wrap→zW,i64→zI,u8→zU
open Go Go.Ref
theorem z17i(l:List Int)(base a:Nat):∀b,wordV l base (a+b)=wordV l base a*2^b+wordV l (base+a) b
 |0=>by simp [wordV]
 |b+1=>by
  rw[←Nat.add_assoc,zf0,zf0,z17i l base a b,Nat.pow_succ,show base+(a+b)+1=base+a+b+1 by omega]
  generalize(if((base+a+b+1:Nat):Int)∈l then 1 else 0)=e
  rw[←Nat.mul_assoc]
  omega
def wordL(l:List Int)(base n:Nat):List Int:=(List.range n).map fun j=>((wordV l (base+8*j) 8:Nat):Int)
theorem zz8(l:List Int)(base n:Nat):wordL l base (n+1)=wordL l base n++ [((wordV l (base+8*n) 8:Nat):Int)]:=by
 unfold wordL
 rw[List.range_succ,List.map_append];rfl
theorem z17h(l:List Int)(base:Nat):∀n,valF 0 (wordL l base n)=wordV l base (8*n)
 |0=>rfl
 |n+1=>by
  rw[zz8,z17d,z17h l base n,Int.toNat_natCast,show 8*(n+1)=8*n+8 by omega,z17i]
theorem z1p2(l:List Int)(base:Nat):wordL l base 8=byB (wordV l base 64):=by
 have h:=(z7p (l:=wordL l base 8) (by unfold wordL;rw[List.length_map,List.length_range]) fun y hy=>by
  unfold wordL at hy
  obtain⟨j,_,rfl⟩:=List.mem_map.1 hy
  have:=zao l (base+8*j) 8
  unfold zq
  omega).1
 rw[←h]
 congr 1
 exact z17h l base 8
theorem zxw(l:List Int)(hl:l.length≤maxLen)(base i:Nat)(hi:i<8)(hb:base≤64)(t:List Int):∀(m k K:Nat),k+m=8→m<K→
 za1 K l ((base+1:Nat):Int) t (i:Int) ((wordV l (base+8*i) k:Nat):Int) (k:Int)=some (l,((base+1:Nat):Int),t,(i:Int),((wordV l (base+8*i) 8:Nat):Int))
 |m,k,0,_,hK=>by omega
 |0,k,K+1,hk,hK=>by
  have:k=8:=by omega
  subst this
  unfold za1 zin
  rw[zF (by omega)];rfl
 |m+1,k,K+1,hk,hK=>by
  have ih:=zxw l hl base i hi hb t m (k+1) K (by omega) (by omega)
  have e1:zW zI ((8:Int)*(i:Int))=((8*i:Nat):Int):=by rw[zi (by omega) (by omega)];omega
  have e2:zW zI (((base+1:Nat):Int)+((8*i:Nat):Int))=((base+1+8*i:Nat):Int):=by rw[zi (by omega) (by omega)];omega
  have e3:zW zI (((base+1+8*i:Nat):Int)+(k:Int))=((base+8*i+k+1:Nat):Int):=by rw[zi (by omega) (by omega)];omega
  have hw:=zao l (base+8*i) k
  have hp:2^k≤2^7:=Nat.pow_le_pow_right (by decide) (by omega)
  rw[show(2:Nat)^7=128 from rfl] at hp
  have hs:=zf0 l (base+8*i) k
  have u1:zW zU (((wordV l (base+8*i) k:Nat):Int)*2)=((2*wordV l (base+8*i) k:Nat):Int):=by
   rw[show((wordV l (base+8*i) k:Nat):Int)*2=((2*wordV l (base+8*i) k:Nat):Int) by omega,z1cz,Nat.mod_eq_of_lt (by omega)]
  have u2:zW zU (((2*wordV l (base+8*i) k:Nat):Int)+1)=((2*wordV l (base+8*i) k+1:Nat):Int):=by
   rw[show((2*wordV l (base+8*i) k:Nat):Int)+1=((2*wordV l (base+8*i) k+1:Nat):Int) by omega,z1cz,Nat.mod_eq_of_lt (by omega)]
  unfold za1 zin
  rw[zT (by omega),zC,e1,e2,e3,zko l _ hl,zc,u1,u2,zo (by omega)]
  by_cases hm:((base+8*i+k+1:Nat):Int)∈l
  ·rw[if_pos hm] at hs
   rw[zT hm,zC,←hs]
   exact ih
  ·rw[if_neg hm] at hs
   replace hs:wordV l (base+8*i) (k+1)=2*wordV l (base+8*i) k:=hs
   rw[zF hm,zD,←hs]
   exact ih
theorem zqv(l:List Int)(hl:l.length≤maxLen)(base:Nat)(hb:base≤64):∀(m i K:Nat),i+m=8→m<K→
 za0 K l ((base+1:Nat):Int) (wordL l base i) (i:Int)=some (wordL l base 8)
 |m,i,0,_,hK=>by omega
 |0,i,K+1,hi,hK=>by
  have:i=8:=by omega
  subst this
  unfold za0 zim
  rw[zF (by omega)];rfl
 |m+1,i,K+1,hi,hK=>by
  have h1:=zxw l hl base i (by omega) hb (wordL l base i) 8 0 FUEL (by omega) (by rw[zn];omega)
  rw[show wordV l (base+8*i) 0=0 from rfl,show((0:Nat):Int)=0 from rfl] at h1
  have hlen:(wordL l base i).length=i:=by unfold wordL;rw[List.length_map,List.length_range]
  unfold za0 zim
  rw[zT (by omega),zC]
  dsimp only
  rw[h1,zc]
  unfold zxf
  dsimp only
  rw[zT (by rw[hlen,List.length_singleton];omega),zC,zo (by omega),←zz8]
  exact zqv l hl base hb m (i+1) K (by omega) (by omega)
theorem zed(l:List Int)(hl:l.length≤maxLen)(base:Nat)(hb:base≤64):Q90 l ((base+1:Nat):Int)=some (wB (wordV l base 64)):=by
 unfold Q90 zxe
 have:=zqv l hl base hb 8 0 FUEL (by omega) (by rw[zn];omega)
 rw[show wordL l base 0=[] from rfl,show((0:Nat):Int)=0 from rfl,z1p2] at this
 dsimp only
 rw[this];rfl
theorem z1c1(style:Int)(l:List Int)(hl:l.length≤maxLen):∀(m j K:Nat) (t:Bool),j+m=129→m<K→∃r:Bool,z7u K style l t (j:Int)=some (style,l,r)∧(r=true↔t=true∨∃n:Nat,j≤n∧n≤128∧(n:Int)∈l)
 |m,j,0,t,_,hK=>by omega
 |0,j,K+1,t,hj,hK=>by
  refine⟨t,?_,⟨fun h=> .inl h,fun h=>h.elim id fun⟨n,h1,h2,_⟩=>by omega⟩⟩
  unfold z7u zik
  rw[zF (by omega)];rfl
 |m+1,j,K+1,t,hj,hK=>by
  unfold z7u zik
  rw[zT (by omega),zC,zo (by omega),zko l _ hl,zc]
  cases t with
  |true=>
   obtain⟨r,h1,h2⟩:=z1c1 style l hl m (j+1) K true (by omega) (by omega)
   exact⟨r,h1,⟨fun _=> .inl rfl,fun _=>h2.2 (.inl rfl)⟩⟩
  |false=>
   obtain⟨r,h1,h2⟩:=z1c1 style l hl m (j+1) K (decide ((j:Int)∈l)) (by omega) (by omega)
   refine⟨r,h1,h2.trans ⟨fun h=> .inr ?_,fun h=> ?_⟩⟩
   ·rcases h with h|⟨n,n1,n2,n3⟩
    ·exact⟨j,Nat.le_refl _,by omega,of_decide_eq_true h⟩
    ·exact⟨n,by omega,n2,n3⟩
   ·rcases h with h|⟨n,n1,n2,n3⟩
    ·cases h
    ·by_cases e:n=j
     ·subst e;exact .inl (zT n3)
     ·exact .inr ⟨n,by omega,n2,n3⟩
theorem z1oa(l:List Int):setL l=0↔¬∃n:Nat,65≤n∧n≤128∧(n:Int)∈l:=by
 have hlow:∀n:Nat,65≤n→n≤128→hasN (setH l) 0 (n:Int)=false:=fun n h1 h2=>by
  unfold hasN
  rw[if_neg (by omega),if_pos (by omega),Nat.zero_testBit]
 constructor
 ·rintro h ⟨n,n1,n2,n3⟩
  have:=z4e l n
  rw[h,hlow n n1 n2,zT n3] at this
  unfold inR at this
  rw[zT (by omega)] at this
  cases this
 ·intro h
  refine(zqq (z26 l) (z2b l) (z26 l) (by decide:(0:Nat)<B64) fun n n1 n2=> ?_).2
  by_cases h64:n≤64
  ·unfold hasN
   rw[if_pos ⟨n1,h64⟩,if_pos ⟨n1,h64⟩]
  ·obtain⟨m,rfl⟩:∃m:Nat,n=m:=⟨n.toNat,by omega⟩
   rw[hlow m (by omega) (by omega),z4e,zF (fun hm=>h ⟨m,by omega,by omega,hm⟩)];rfl
theorem z22d(l:List Int):decide ((1:Int)∈l)= !decide (setH l<9223372036854775808):=by
 rw[←z1ff (l:=setL l) (z26 l),z4e]
 unfold inR
 rw[zT (p:=(1:Int)≤1∧(1:Int)≤128) (by decide),Bool.and_true]
theorem z1uq(l:List Int)(h:setH l<9223372036854775808):setH (1::l)=setH l+9223372036854775808:=by
 rw[←z1nx h]
 have hlt:setH l|||9223372036854775808<B64:=or_lt (z26 l) (by decide)
 refine(zqq (z26 (1::l)) (z2b (1::l)) hlt (z2b l) fun n n1 n2=> ?_).1
 have hw:=z1bl (setH l) (setL l) 1 n
 rw[show bitH 1=9223372036854775808 from by decide,show bitL 1=0 from by decide,Nat.or_zero] at hw
 rw[hw,z4e,z4e]
 by_cases e:n=1
 ·subst e
  simp [inR]
 ·simp [e,Ne.symm e]
theorem z1ph(style:Int)(l:List Int)(hl:l.length≤1000000):Q89 style l=some ((bmPut style (setH l) (setL l)).1,decide ((bmPut style (setH l) (setL l)).2=0)):=by
 have hml:l.length≤maxLen:=by simp only[maxLen];omega
 have hml1:([(1:Int)]++l).length≤maxLen:=by simp only[maxLen,List.length_append,List.length_singleton];omega
 obtain⟨r,hr1,hr2⟩:=z1c1 style l hml 64 65 FUEL false (by omega) (by rw[zn];omega)
 rw[show((65:Nat):Int)=65 from rfl] at hr1
 have hr:r= !decide (setL l=0):=by
  have:=(z1oa l)
  by_cases h0:setL l=0
  ·rw[zT h0]
   cases r with
   |false=>rfl
   |true=>exact absurd ((hr2.1 rfl).elim (fun h=>by cases h) id) (this.1 h0)
  ·rw[zF h0]
   cases r with
   |true=>rfl
   |false=>
    have hex:∃n:Nat,65≤n∧n≤128∧(n:Int)∈l:=Classical.byContradiction fun h=>h0 (this.2 h)
    have:=hr2.2 (.inr hex)
    cases this
 have w1:Q90 l 1=some (wB (setH l)):=by
  have:=zed l hml 0 (by decide)
  rw[(zty l).1] at this;exact this
 have w2:Q90 l 65=some (wB (setL l)):=by
  have:=zed l hml 64 (by decide)
  rw[(zty l).2] at this;exact this
 have w3:Q90 ([(1:Int)]++l) 1=some (wB (setH (1::l))):=by
  have:=zed ([(1:Int)]++l) hml1 0 (by decide)
  rw[(zty ([(1:Int)]++l)).1] at this;exact this
 have fin:∀t:ByteArray,t.size≤16→(bif decide (style=1) then(Q75 t).bind fun r6=>some (r6,true) else some (t,true))=some (encS style t,true):=fun t ht=>by
  unfold encS
  by_cases hs:style=1
  ·rw[zT hs,zC,z186 t (by omega),if_pos hs];rfl
  ·rw[zF hs,if_neg hs];rfl
 have main:(style=1∨style=2)→((Q84 l (1:Int)).bind fun r1=>(bif r1 then some (bs [],false) else((z7u FUEL style l false (65:Int)).bind fun e=>zil e.1 e.2.1 e.2.2 (fun a0 a1=>some (a0,a1)))))=some ((bmPut style (setH l) (setL l)).1,decide ((bmPut style (setH l) (setL l)).2=0)):=fun hs=>by
  rw[zko l _ hml,zc,z22d]
  by_cases h2:setH l<9223372036854775808
  case neg=>
   rw[zF h2,Bool.not_false,zC]
   unfold bmPut
   rw[if_neg (fun h=>h2 h.2)];rfl
  rw[zT h2,Bool.not_true,zD,hr1,zc,zti hs h2]
  unfold zil
  dsimp only
  rw[w1,zc,hr]
  by_cases hz:setL l=0
  ·rw[zT hz,Bool.not_true,zD,if_pos hz]
   exact fin (wB _) (by rw[z36];decide)
  ·rw[zF hz,Bool.not_false,zC,if_neg hz,zT (by simp only[List.length_singleton];omega),zC,w3,zc,w2,zc,zT (by rw[z36,z36];decide),zC,z1uq l h2,←zr2]
   exact fin (wB _++wB _) (by rw[z2z,z36,z36];decide)
 unfold Q89 zd7
 by_cases h1:style=1
 ·rw[zT h1]
  exact main (.inl h1)
 ·rw[zF h1]
  by_cases h2:style=2
  ·rw[zT h2]
   exact main (.inr h2)
  ·rw[zF h2]
   unfold bmPut
   rw[if_neg (fun h=>h.1.elim h1 h2)];rfl
end Groat

namespace Groat
open Go.IntKind renaming wrap→zW,i64→zI,u8→zU
open Go Go.Ref
def zz(m:ByteArray):Bool:=decide ((m.size:Int)=4)&&allD (bl m)
theorem z1i{m:ByteArray}:zz m=true↔m.size=4∧allD (bl m)=true:=by
 unfold zz
 rw[Bool.and_eq_true,decide_eq_true_eq]
 constructor<;>intro h<;>exact⟨by omega,h.2⟩
theorem zbf(m:ByteArray)(h:m.size≤maxLen):Q191 m=some (zz m):=by
 unfold Q191 zo0 zz
 cases decide ((m.size:Int)=4) with
 |false=>rfl
 |true=>rw[zC,zu0 m h];rfl
theorem ze0(m:ByteArray)(h:m.size≤maxLen):Q116 m=some (zz m):=by
 unfold Q116 zl8 zz
 cases decide ((m.size:Int)=4) with
 |false=>rfl
 |true=>rw[zC,zdo m h];rfl
theorem z38{m:ByteArray}(h:zz m=true)(i:Nat)(hi:i<4):48≤ze m i∧ze m i≤57:=by
 obtain⟨h1,h2⟩:=z1i.1 h
 have hl:i<(bl m).length:=by rw[zg];omega
 have:=List.all_eq_true.1 h2 _ (List.getElem_mem hl)
 rw[z1h,List.getD_eq_getElem?_getD,List.getElem?_eq_getElem hl]
 exact of_decide_eq_true this
def verM(m:ByteArray):Int:=bif zz m then ze m 0-48 else 0
def reqM(m:ByteArray):Bool:=zz m&&(decide (ze m 2=48)||decide (ze m 2=50))
theorem z8b(m:ByteArray)(h:m.size≤maxLen):Q192 m=some (verM m,zz m):=by
 unfold Q192 zo1 verM
 rw[zbf m h,Option.bind_some]
 cases hr:zz m with
 |false=>rfl
 |true=>
  obtain⟨h1,_⟩:=z1i.1 hr
  have:=z38 hr 0 (by omega)
  simp only[Bool.not_true,zD,zC]
  rw[zl (by omega) (by omega),show(0:Int).toNat=0 from rfl,u8_id (by omega) (by omega),zi (by omega) (by omega)]
theorem zdz(m:ByteArray)(h:m.size≤maxLen):Q189 m=some (reqM m):=by
 unfold Q189 zny reqM
 rw[zbf m h,Option.bind_some]
 cases hr:zz m with
 |false=>rfl
 |true=>
  obtain⟨h1,_⟩:=z1i.1 hr
  rw[zC,zl (by omega) (by omega),zl (by omega) (by omega),show(2:Int).toNat=2 from rfl]
  cases decide (ze m 2=48)<;>rfl
theorem za4(m:ByteArray)(h:m.size≤maxLen):Q114 m=some (reqM m):=by
 unfold Q114 zl6 reqM
 rw[zds m h,Option.bind_some]
 unfold getD'
 by_cases h4:m.size=4
 ·cases hd:allD (bl m) with
  |false=>
   rw[if_neg (by simp)]
   have:zz m=false:=by unfold zz;rw[hd,Bool.and_false]
   rw[this];rfl
  |true=>
   have hr:zz m=true:=z1i.2 ⟨h4,hd⟩
   rw[if_pos ⟨by rw[zg];omega,by rw[zg];omega,rfl⟩,hr]
   dsimp only
   rw[zC,zT (by omega),zC,Bool.true_and]
   have hl:(bl m).length=4:=by rw[zg,h4]
   obtain⟨d0,d1,d2,d3,hb⟩:∃d0 d1 d2 d3,bl m=[d0,d1,d2,d3]:=by
    match hm:bl m,hl with
    | [d0,d1,d2,d3],_=>exact⟨d0,d1,d2,d3,rfl⟩
   have h0:=z38 hr 0 (by omega)
   have h1:=z38 hr 1 (by omega)
   have h2:=z38 hr 2 (by omega)
   have h3:=z38 hr 3 (by omega)
   rw[z1h,hb] at h0 h1 h2 h3
   rw[z1h,hb]
   simp only[List.getD_cons_zero,List.getD_cons_succ] at h0 h1 h2 h3⊢
   have hv:valD [d0,d1,d2,d3] 0=1000*(d0-48)+100*(d1-48)+10*(d2-48)+(d3-48):=by
    simp only[valD,List.foldl_cons,List.foldl_nil];omega
   have hq:Int.tmod (zW zI (Int.tdiv (valD [d0,d1,d2,d3] 0) 10)) 10=d2-48:=by
    rw[hv,Int.tdiv_eq_ediv_of_nonneg (by omega),zi (by omega) (by omega),Int.tmod_eq_emod_of_nonneg (by omega)]
    omega
   rw[hq]
   by_cases e1:d2=48
   ·rw[zT e1,zT (by omega:d2-48=0)];rfl
   ·rw[zF e1,zF (by omega:¬d2-48=0),zD,Bool.false_or]
    congr 1
    exact decide_eq_decide.2 (by omega)
 ·have:zz m=false:=by
   unfold zz
   rw[zF (by omega),Bool.false_and]
  rw[this]
  cases(if 1≤(bl m).length∧(bl m).length≤18∧allD (bl m)=true then(valD (bl m) 0,true) else((0:Int),false)).2 with
  |false=>rfl
  |true=>rw[zC,zF (by omega)];rfl
def versM(m:ByteArray)(v:Int):Bool:=zz m&&decide (ze m 0-48=v)
theorem zkl(m:ByteArray)(v:Int)(h:m.size≤maxLen):Q142 m v=some (versM m v):=by
 unfold Q142 zmt versM
 rw[ze0 m h,Option.bind_some]
 cases hr:zz m with
 |false=>rfl
 |true=>
  obtain⟨h1,_⟩:=z1i.1 hr
  have:=z38 hr 0 (by omega)
  have w1:zW zI (ze m 0)=ze m 0:=zi (by omega) (by omega)
  rw[zC,zl (by omega) (by omega),show(0:Int).toNat=0 from rfl,w1,zi (by omega) (by omega)]
  rfl
def z2o(p:Pair)(a b:zf):Bool:=versM p.1 a.2.1&&(versM p.2.1 b.2.1&&(reqM p.1==reqM p.2.1))
theorem z1v0(p:Pair)(a b:zf)(h1:p.1.size≤maxLen)(h2:p.2.1.size≤maxLen):Q255 p a b=some (z2o p a b):=by
 unfold Q255 zqc z2o versM
 rw[z8b _ h1,z8b _ h2,zdz _ h1,zdz _ h2]
 simp only[Option.bind_some]
 unfold verM
 cases zz p.1 with
 |false=>rfl
 |true=>
  cases zz p.2.1 with
  |false=>simp
  |true=>
   simp only[zC,Bool.true_and]
   cases decide (ze p.1 0-48=a.2.1) with
   |false=>rfl
   |true=>
    cases decide (ze p.2.1 0-48=b.2.1) with
    |false=>rfl
    |true=>rfl
end Groat

namespace Groat
open Go.IntKind renaming wrap→zW,i64→zI,u8→zU
open Go Go.Ref
abbrev Msg:=ByteArray×List Val×Unit
abbrev Fault:=Int×Int×Unit
abbrev vnil:Val:=(0,bs [],())
abbrev zu:Fault:=(0,0,())
structure MsgOk(m:Msg):Prop where
 mti:m.1.size≤9223372036854775807
 len:m.2.1.length≤1000000
 txt:∀v∈m.2.1,v.2.1.size≤1099511627776
def dropV(l:List Val)(no:Int):List Val:=l.filter fun v=> !decide (v.1=no)
theorem zjg(l:List Val)(no:Int):(dropV l no).length≤l.length:=List.length_filter_le _ _
theorem z7s(no:Int)(fin:Msg×Msg→Option (Msg×Msg)):∀(l:List Val) (i:Int) (s:Msg×Msg),s.2.2.1.length+l.length≤1000000000→
 runI (fun i (x:Val) (s:Msg×Msg) K=>(bif(!(decide (x.1=no))) then(bif(decide ((s.2.2.1.length+(List.length ([x]:List Val)))*24≤140737488355328)) then K (s.1,(s.2.1,(s.2.2.1++([x]:List Val)),())) else none) else K s)) fin l i s=fin (s.1,(s.2.1,s.2.2.1++dropV l no,()))
 | [],i,s,_=>by
   show fin s=_
   simp [dropV]
 |x::r,i,s,h=>by
  simp only[List.length_cons] at h
  rw[runI]
  by_cases hx:x.1=no
  ·rw[zT hx,Bool.not_true,zD]
   refine(z7s no fin r (i+1) s (by omega)).trans ?_
   simp [dropV,hx]
  ·rw[zF hx,Bool.not_false,zC,zT (by simp only[List.length_singleton];omega),zC]
   refine(z7s no fin r (i+1) (s.1,(s.2.1,s.2.2.1++ [x],())) (by simp only[List.length_append,List.length_singleton];omega)).trans ?_
   simp [dropV,hx]
theorem z1d9(m:Msg)(no:Int)(h:m.2.1.length≤1000000):Q188 m no=some (m.1,dropV m.2.1 no,()):=by
 unfold Q188 znx
 dsimp only
 have:=loopI vnil m.2.1 (by rw[zj];omega) (fun i (x:Val) (s:Msg×Msg) K=>(bif(!(decide (x.1=no))) then(bif(decide ((s.2.2.1.length+(List.length ([x]:List Val)))*24≤140737488355328)) then K (s.1,(s.2.1,(s.2.2.1++([x]:List Val)),())) else none) else K s)) (fun s=>some s)
  (fun k i s=>zcf k no m.2.1 (m.2.1.length:Int) i s.1 s.2) (fun k i s=>rfl) ((bs [],[],()),(m.1,[],()))
 rw[this,z7s no _ _ _ _ (by simp;omega)]
 rfl
def idxGt(no:Int):List Val→Int→Int
 | [],_=> -1
 |x::r,i=>if no<x.1 then i else idxGt no r (i+1)
theorem z5i(no:Int):∀(l:List Val) (i:Int),0≤i→(idxGt no l i= -1∧∀x∈l,x.1≤no)∨(i≤idxGt no l i∧idxGt no l i<i+l.length)
 | [],i,h=> .inl ⟨rfl,fun x hx=>by cases hx⟩
 |x::r,i,h=>by
  unfold idxGt
  by_cases hx:no<x.1
  ·rw[if_pos hx];right;simp only[List.length_cons];omega
  ·rw[if_neg hx]
   rcases z5i no r (i+1) (by omega) with⟨h1,h2⟩|h1
   ·left
    refine⟨h1,fun y hy=> ?_⟩
    rcases List.mem_cons.1 hy with rfl|hy
    ·omega
    ·exact h2 y hy
   ·right;simp only[List.length_cons];omega
def exV(r no:Int):Sum (Int×Int) Int:=bif decide (r<0) then .inr no else .inl (r,no)
theorem z16m(no:Int):∀(l:List Val) (i:Int),0≤i→runI (fun i (x:Val) (s:Int) K=>((Q187 x s).bind fun r1=>(bif r1.1 then some (Sum.inl (i,r1.2)) else K r1.2))) (fun s=>some (Sum.inr s)) l i no=some (exV (idxGt no l i) no)
 | [],i,h=>rfl
 |x::r,i,h=>by
  rw[runI,idxGt]
  show(bif decide (no<x.1) then some (Sum.inl (i,no)) else runI _ _ r (i+1) no)=_
  by_cases hx:no<x.1
  ·rw[zT hx,zC,if_pos hx]
   unfold exV
   rw[zF (by omega)];rfl
  ·rw[zF hx,zD,if_neg hx]
   exact z16m no r (i+1) (by omega)
theorem z1gg(l:List Val)(no:Int)(h:l.length≤1000000):Q226 l no=some (idxGt no l 0,no):=by
 unfold Q226 zp5
 dsimp only
 have:=loopI vnil l (by rw[zj];omega) (fun i (x:Val) (s:Int) K=>((Q187 x s).bind fun r1=>(bif r1.1 then some (Sum.inl (i,r1.2)) else K r1.2))) (fun s=>some (Sum.inr s))
  (fun k i s=>zcq k l (l.length:Int) i s) (fun k i s=>rfl) no
 rw[this,z16m no l 0 (Int.le_refl _),zc]
 unfold exV
 rcases z5i no l 0 (Int.le_refl _) with⟨h1,_⟩|h1
 ·rw[h1];rfl
 ·rw[zF (by omega)];rfl
theorem z1o6(old:List Val)(at_:Nat)(v d:Val)(h:at_≤old.length):
 putL (List.set (putL (List.replicate (old.length+1) d) (List.take (old.length+1) (List.drop 0 (List.take at_ old))) 0) at_ v) (List.take (old.length+1-(at_+1)) (List.drop at_ (List.take old.length old))) (at_+1)=old.take at_++v::old.drop at_:=by
 have e1:List.take (old.length+1) (List.drop 0 (List.take at_ old))=old.take at_:=by
  rw[List.drop_zero,List.take_take,Nat.min_eq_right (by omega)]
 have e2:List.take (old.length+1-(at_+1)) (List.drop at_ (List.take old.length old))=old.drop at_:=by
  rw[List.take_length,List.take_of_length_le (by rw[List.length_drop];omega)]
 rw[e1,e2]
 have hl:(old.take at_).length=at_:=by rw[List.length_take];omega
 have e3:putL (List.replicate (old.length+1) d) (old.take at_) 0=old.take at_++List.replicate (old.length+1-at_) d:=by
  unfold putL
  rw[List.take_zero,List.nil_append,hl,Nat.zero_add,List.drop_replicate]
 obtain⟨n,hn⟩:∃n,old.length+1-at_=n+1:=⟨old.length-at_,by omega⟩
 have e4:List.set (old.take at_++List.replicate (old.length+1-at_) d) at_ v=old.take at_++v::List.replicate n d:=by
  rw[hn,List.replicate_succ,List.set_append,if_neg (by omega),hl,Nat.sub_self,List.set_cons_zero]
 rw[e3,e4]
 unfold putL
 have e5:(old.take at_++v::List.replicate n d).take (at_+1)=old.take at_++ [v]:=by
  rw[List.take_append,hl,show at_+1-at_=1 by omega,List.take_of_length_le (by omega)];rfl
 have e6:(old.take at_++v::List.replicate n d).drop (at_+1+(old.drop at_).length)=[]:=by
  apply List.drop_eq_nil_of_le
  rw[List.length_append,hl,List.length_cons,List.length_replicate,List.length_drop]
  omega
 rw[e5,e6,List.append_nil,List.append_assoc]
 rfl
theorem z17g(q t:ByteArray)(no:Int)(old:List Val)(at_:Nat)(h:at_≤old.length)(hl:old.length≤1000000):
 (bif(decide ((zW zI (((List.length old):Int)+(1:Int)))=(zW zI (((List.length old):Int)+(1:Int))))) then(bif(decide ((0:Int)≤(zW zI (((List.length old):Int)+(1:Int))))) then(bif(decide ((zW zI (((List.length old):Int)+(1:Int)))*24≤140737488355328)) then(bif(decide ((0:Int)≤((at_:Nat):Int))) then(bif(decide (((at_:Nat):Int)≤(((List.length old):Nat):Int))) then(bif(Nat.beq ((zW zI (((List.length old):Int)+(1:Int)))).toNat (List.length (List.replicate ((zW zI (((List.length old):Int)+(1:Int)))).toNat ((0:Int),(bs []),())))) then(zd ((at_:Nat):Int) ((zW zI (((List.length old):Int)+(1:Int)))).toNat (bif(Nat.ble ((((at_:Nat):Int)).toNat+1) (List.length (putL (List.replicate ((zW zI (((List.length old):Int)+(1:Int)))).toNat ((0:Int),(bs []),())) (List.take ((zW zI (((List.length old):Int)+(1:Int)))).toNat (List.drop 0 (List.take (((at_:Nat):Int)).toNat old))) 0))) then(bif(decide ((0:Int)≤(zW zI (((at_:Nat):Int)+(1:Int))))) then(bif(decide ((zW zI (((at_:Nat):Int)+(1:Int)))≤((((zW zI (((List.length old):Int)+(1:Int)))).toNat:Nat):Int))) then(bif(decide ((0:Int)≤((at_:Nat):Int))) then(bif(decide (((at_:Nat):Int)≤(((List.length old):Nat):Int))) then(bif(Nat.beq ((zW zI (((List.length old):Int)+(1:Int)))).toNat (List.length (List.set (putL (List.replicate ((zW zI (((List.length old):Int)+(1:Int)))).toNat ((0:Int),(bs []),())) (List.take ((zW zI (((List.length old):Int)+(1:Int)))).toNat (List.drop 0 (List.take (((at_:Nat):Int)).toNat old))) 0) (((at_:Nat):Int)).toNat (no,t,())))) then(bif(Nat.ble ((zW zI (((at_:Nat):Int)+(1:Int)))).toNat ((zW zI (((List.length old):Int)+(1:Int)))).toNat) then(bif(Nat.beq ((zW zI (((List.length old):Int)+(1:Int)))).toNat (List.length (putL (List.set (putL (List.replicate ((zW zI (((List.length old):Int)+(1:Int)))).toNat ((0:Int),(bs []),())) (List.take ((zW zI (((List.length old):Int)+(1:Int)))).toNat (List.drop 0 (List.take (((at_:Nat):Int)).toNat old))) 0) (((at_:Nat):Int)).toNat (no,t,())) (List.take (((zW zI (((List.length old):Int)+(1:Int)))).toNat-((zW zI (((at_:Nat):Int)+(1:Int)))).toNat) (List.drop (((at_:Nat):Int)).toNat (List.take (List.length old) old))) ((zW zI (((at_:Nat):Int)+(1:Int)))).toNat))) then(some (q,(putL (List.set (putL (List.replicate ((zW zI (((List.length old):Int)+(1:Int)))).toNat ((0:Int),(bs []),())) (List.take ((zW zI (((List.length old):Int)+(1:Int)))).toNat (List.drop 0 (List.take (((at_:Nat):Int)).toNat old))) 0) (((at_:Nat):Int)).toNat (no,t,())) (List.take (((zW zI (((List.length old):Int)+(1:Int)))).toNat-((zW zI (((at_:Nat):Int)+(1:Int)))).toNat) (List.drop (((at_:Nat):Int)).toNat (List.take (List.length old) old))) ((zW zI (((at_:Nat):Int)+(1:Int)))).toNat),())) else none) else none) else none) else none) else none) else none) else none) else none)) else none) else none) else none) else none) else none) else none)=some (q,old.take at_++(no,t,())::old.drop at_,()):=by
 have w1:zW zI ((old.length:Int)+1)=((old.length+1:Nat):Int):=zo (by omega)
 have w2:zW zI ((at_:Int)+1)=((at_+1:Nat):Int):=zo (by omega)
 simp only[w1,w2,Int.toNat_natCast]
 have key:=z1o6 old at_ (no,t,()) ((0:Int),bs [],()) h
 have l1:(putL (List.replicate (old.length+1) ((0:Int),(bs []),())) (List.take (old.length+1) (List.drop 0 (List.take at_ old))) 0).length=old.length+1:=by
  unfold putL;simp;omega
 have l2:(old.take at_++(no,t,())::old.drop at_).length=old.length+1:=by
  rw[List.length_append,List.length_take,List.length_cons,List.length_drop];omega
 have d2:decide ((0:Int)≤((old.length+1:Nat):Int))=true:=zT (by omega)
 have d3:decide (((old.length+1:Nat):Int)*24≤140737488355328)=true:=zT (by omega)
 have d4:decide ((0:Int)≤(at_:Int))=true:=zT (by omega)
 have d5:decide ((at_:Int)≤(old.length:Int))=true:=zT (by omega)
 have d9:decide ((0:Int)≤((at_+1:Nat):Int))=true:=zT (by omega)
 have d10:decide (((at_+1:Nat):Int)≤((old.length+1:Nat):Int))=true:=zT (by omega)
 have b1:Nat.ble (at_+1) (old.length+1)=true:=Nat.ble_eq_true_of_le (by omega)
 have hw:∀{R:Type} (x:Option R),zd (at_:Int) (old.length+1) x=x:=fun x=>zh (by omega)
 simp only[decide_true,zC,d2,d3,d4,d5,List.length_replicate,Nat.beq_refl,hw,l1,b1,d9,d10,List.length_set,key,l2]
def insV(l:List Val)(no:Int)(t:ByteArray):List Val:=
 bif decide (idxGt no l 0<0) then l++ [(no,t,())] else l.take (idxGt no l 0).toNat++(no,t,())::l.drop (idxGt no l 0).toNat
def withM(m:Msg)(no:Int)(t:ByteArray):Msg:=(m.1,insV (dropV m.2.1 no) no t,())
theorem zdu(m:Msg)(no:Int)(t:ByteArray)(h:m.2.1.length≤1000000):Q186 m no t=some (withM m no t):=by
 unfold Q186 znv withM
 have hl:=zjg m.2.1 no
 rw[z1d9 m no h,zc]
 dsimp only
 generalize dropV m.2.1 no=old at*
 rw[z1gg old no (by omega),zc]
 dsimp only
 unfold insV
 rcases z5i no old 0 (Int.le_refl _) with⟨h1,_⟩|h1
 ·rw[h1,zT (by omega:(-1:Int)<0),zC,zC]
  refine(z17g m.1 t no old old.length (Nat.le_refl _) (by omega)).trans ?_
  rw[List.take_length,List.drop_length]
 ·rw[zF (by omega:¬idxGt no old 0<0),zD,zD]
  obtain⟨n,hn⟩:∃n:Nat,idxGt no old 0=n:=⟨(idxGt no old 0).toNat,by omega⟩
  rw[hn]
  refine(z17g m.1 t no old n (by omega) (by omega)).trans ?_
  rw[Int.toNat_natCast]
def z2i(s:zf):List Val→Int→Option Fault
 | [],_=>none
 |x::r,last=>bif decide (x.1≤last) then some (11,x.1,()) else bif !hasS s x.1 then some (9,x.1,()) else bif !decide (valC (getS s x.1) x.2.1=0) then some (valC (getS s x.1) x.2.1,x.1,()) else z2i s r x.1
def zqi(o:Option Fault):Option (Sum Fault Fault):=some (match o with
 |some f=> .inl f
 |none=> .inr zu)
theorem zej(s:zf)(hs:s.2.2.1.length≤maxLen):∀(l:List Val) (i last:Int),(∀v∈l,v.2.1.size≤1099511627776)→
 runI (fun i (x:Val) (t9:Int) K=>(bif(decide (x.1≤t9)) then some (Sum.inl ((11:Int),x.1,())) else((Q222 s x.1).bind fun r3=>(bif(!r3.2) then some (Sum.inl ((9:Int),x.1,())) else((Q229 r3.1 x.2.1).bind fun r4=>(bif(!(decide (r4=(0:Int)))) then some (Sum.inl (r4,x.1,())) else K x.1)))))) (fun _=>some (Sum.inr zu)) l i last=zqi (z2i s l last)
 | [],i,last,_=>rfl
 |x::r,i,last,h=>by
  rw[runI,z2i,z3v s _ hs,zc]
  cases decide (x.1≤last) with
  |true=>rfl
  |false=>
   rw[zD,zD]
   dsimp only
   cases hasS s x.1 with
   |false=>rfl
   |true=>
    rw[Bool.not_true,zD,zD,z2r _ _ (h x List.mem_cons_self),zc]
    cases decide (valC (getS s x.1) x.2.1=0) with
    |false=>rfl
    |true=>
     rw[Bool.not_true,zD,zD]
     exact zej s hs r (i+1) x.1 (fun v hv=>h v (List.mem_cons_of_mem _ hv))
def msgC(s:zf)(m:Msg):Fault:=
 bif !decide ((z14 s).1=0) then(1,-1,()) else bif !zz m.1 then(7,0,()) else bif !decide (verM m.1=s.2.1) then(7,0,()) else match z2i s m.2.1 0 with
  |some f=>f
  |none=>zu
theorem zrf(s:zf)(m:Msg)(hs:s.2.2.1.length≤maxLen)(h:MsgOk m):Q183 s m=some (msgC s m):=by
 unfold Q183 znq msgC
 rw[z9j s hs,zc,z8b m.1 (by rw[zj];exact h.mti),zc]
 cases decide ((z14 s).1=0) with
 |false=>rfl
 |true=>
  rw[Bool.not_true,zD,zD]
  dsimp only
  cases zz m.1 with
  |false=>rfl
  |true=>
   rw[Bool.not_true,zD,zD]
   cases decide (verM m.1=s.2.1) with
   |false=>rfl
   |true=>
    rw[Bool.not_true,zD,zD]
    have hl:=h.len
    have:=loopI vnil m.2.1 (by rw[zj];omega) (fun i (x:Val) (t9:Int) K=>(bif(decide (x.1≤t9)) then some (Sum.inl ((11:Int),x.1,())) else((Q222 s x.1).bind fun r3=>(bif(!r3.2) then some (Sum.inl ((9:Int),x.1,())) else((Q229 r3.1 x.2.1).bind fun r4=>(bif(!(decide (r4=(0:Int)))) then some (Sum.inl (r4,x.1,())) else K x.1)))))) (fun _=>some (Sum.inr zu))
     (fun k i t9=>zcc k t9 m.2.1 (m.2.1.length:Int) i s zu) (fun k i t9=>rfl) 0
    rw[this,zej s hs _ _ _ h.txt]
    unfold zqi
    cases z2i s m.2.1 0<;>rfl
theorem z17t(s:zf)(m:Msg)(hs:s.2.2.1.length≤maxLen)(h:MsgOk m)(last:Int):z48 FUEL last 0 s m zu=zqi (z2i s m.2.1 last):=by
 have hl:=h.len
 rw[←zej s hs m.2.1 0 last h.txt]
 refine loopJ vnil m.2.1 (by rw[zj];omega) (fun i (x:Val) (t9:Int) K=>(bif(decide (x.1≤t9)) then some (Sum.inl ((11:Int),x.1,())) else((Q222 s x.1).bind fun r3=>(bif(!r3.2) then some (Sum.inl ((9:Int),x.1,())) else((Q229 r3.1 x.2.1).bind fun r4=>(bif(!(decide (r4=(0:Int)))) then some (Sum.inl (r4,x.1,())) else K x.1)))))) (fun _=>some (Sum.inr zu))
  (fun k i t9=>z48 k t9 i s m zu) (fun k i t9 h0 h1=> ?_) (fun k t9=> ?_) last
 ·show z48 (k+1) t9 i s m zu=_
  conv=>lhs;unfold z48 zbj
  rw[zT h1,zC,zl h0 h1]
  have hx:(List.getD m.2.1 i.toNat ((0:Int),bs [],()))∈m.2.1:=by
   rw[List.getD_eq_getElem?_getD,List.getElem?_eq_getElem (by omega)]
   exact List.getElem_mem _
  show _=(bif(decide ((List.getD m.2.1 i.toNat ((0:Int),bs [],())).1≤t9)) then _ else _)
  generalize hxx:(List.getD m.2.1 i.toNat ((0:Int),bs [],()))=x at*
  cases decide (x.1≤t9) with
  |true=>rfl
  |false=>
   rw[zD,zD,z3t s _ hs,zc,z3v s _ hs,zc]
   rcases z3u s x.1 with⟨i1,i2,i3⟩|⟨i1,i2,i3,i4⟩
   ·rw[i1,i2,zT (by omega:(-1:Int)<0)];rfl
   ·rw[zF (by omega:¬idxS s.2.2.1 x.1 0<0),zD,i3,Bool.not_true,zD,zl i1 i2,zl h0 h1,i4,z27 _ _ (h.txt x hx),zc,z2r _ _ (h.txt x hx),zc]
 ·show z48 (k+1) t9 m.2.1.length s m zu=_
  conv=>lhs;unfold z48 zbj
  rw[zF (by omega),zD]
theorem z1g9(s:zf)(m:Msg)(hs:s.2.2.1.length≤maxLen)(h:MsgOk m):Q117 s m=some (msgC s m):=by
 unfold Q117 zla msgC
 rw[z6a s hs,zc,ze0 m.1 (by rw[zj];exact h.mti),zc]
 cases decide ((z14 s).1=0) with
 |false=>rfl
 |true=>
  rw[Bool.not_true,zD,zD]
  cases hr:zz m.1 with
  |false=>rfl
  |true=>
   obtain⟨r1,_⟩:=z1i.1 hr
   have hd:=z38 hr 0 (by omega)
   rw[Bool.not_true,zD,zD,zl (by omega) (by omega)]
   have hv:verM m.1=ze m.1 0-48:=by unfold verM;rw[hr];rfl
   have e1:zW zI (ze m.1 0)=ze m.1 0:=zi (by omega) (by omega)
   rw[show((0:Int)).toNat=0 from rfl,e1,zi (by omega) (by omega),←hv]
   cases decide (verM m.1=s.2.1) with
   |false=>rfl
   |true=>
    rw[Bool.not_true,zD,zD]
    dsimp only
    rw[z17t s m hs h 0]
    unfold zqi
    cases z2i s m.2.1 0<;>rfl
theorem z1yx{a b:Msg}:a=b↔a.1=b.1∧a.2.1=b.2.1:=⟨fun h=>by rw[h];exact⟨rfl,rfl⟩,fun h=>Prod.ext h.1 (Prod.ext h.2 rfl)⟩
end Groat

namespace Groat
open Go.IntKind renaming wrap→zW,i64→zI,u8→zU
open Go Go.Ref
abbrev Map:=List Pair×List Rule×Unit
structure MapOk(m:Map):Prop where
 mtis:PairsOk m.1
 len:m.2.1.length≤1000000
 rules:∀r∈m.2.1,RuleOk r
def mtisC(a b:zf):List ByteArray→List Pair→Int→Option (Int×Int)
 |_,[],_=>none
 |seen,p::r,i=>if z2o p a b=true then(if p.1∈seen then some (10,i) else mtisC a b (seen++ [p.1]) r (i+1)) else some (7,i)
abbrev Xr:=Sum (Int×Int×Int×Map×zf×zf) (Map×zf×zf)
def mtisR(m:Map)(a b:zf)(o:Option (Int×Int)):Option Xr:=some (match o with
 |some e=> .inl (e.1,2,e.2,m,a,b)
 |none=> .inr (m,a,b))
theorem z1c4(m:Map)(a b:zf):∀(l:List Pair) (i:Int) (seen:List ByteArray),(∀p∈l,p.1.size≤1099511627776∧p.2.1.size≤1099511627776)→
 runI (fun i (x:Pair) (s:List Zt5) K=>((Q255 x a b).bind fun r2=>(bif(!r2) then some (Sum.inl ((7:Int),(2:Int),i,m,a,b)) else(bif mget (eqK .str) false s x.1 then some (Sum.inl ((10:Int),(2:Int),i,m,a,b)) else(bif mhas (eqK .str) s x.1 then none else K (s++ [(x.1,true)])))))) (fun _=>some (Sum.inr (m,a,b))) l i (seenM seen)=mtisR m a b (mtisC a b seen l i)
 | [],i,seen,_=>rfl
 |p::r,i,seen,h=>by
  obtain⟨h1,h2⟩:=h p List.mem_cons_self
  simp only[runI,mtisC]
  rw[z1v0 p a b (by rw[zj];omega) (by rw[zj];omega),Option.bind_some]
  cases z2o p a b with
  |false=>rw[if_neg (by simp)];rfl
  |true=>
   rw[if_pos rfl]
   simp only[Bool.not_true,zD]
   have e1:=zav (eqK .str) (fun _ _=>rfl) p.1 seen
   have e2:=zaw (eqK .str) (fun _ _=>rfl) p.1 seen
   by_cases hm:p.1∈seen
   ·rw[e1.2 hm,if_pos hm];rfl
   ·rw[z4k e1 hm,z4k e2 hm,if_neg hm,zD,zD,zaj]
    exact z1c4 m a b r (i+1) (seen++ [p.1]) fun q hq=>h q (List.mem_cons_of_mem _ hq)
theorem z1no(m:Map)(a b:zf)(h:PairsOk m.1):z9c FUEL m.1 (m.1.length:Int) 0 m a b []=mtisR m a b (mtisC a b [] m.1 0):=by
 have hl:=h.len
 have:=loopI pair0 m.1 (by rw[zj];omega) (fun i (x:Pair) (s:List Zt5) K=>((Q255 x a b).bind fun r2=>(bif(!r2) then some (Sum.inl ((7:Int),(2:Int),i,m,a,b)) else(bif mget (eqK .str) false s x.1 then some (Sum.inl ((10:Int),(2:Int),i,m,a,b)) else(bif mhas (eqK .str) s x.1 then none else K (s++ [(x.1,true)])))))) (fun _=>some (Sum.inr (m,a,b)))
  (fun k i s=>z9c k m.1 (m.1.length:Int) i m a b s) (fun k i s=>rfl) []
 rw[this]
 exact z1c4 m a b m.1 0 [] h.sz
theorem z1m0(f:ByteArray)(l:List Pair):(zp l f).2=true↔f∈l.map fun p=>p.1:=by
 unfold zp
 induction l with
 |nil=>simp
 |cons p r ih=>
  rw[List.find?_cons,List.map_cons,List.mem_cons]
  by_cases h:p.1=f
  ·rw[zT h];exact⟨fun _=> .inl h.symm,fun _=>rfl⟩
  ·rw[zF h]
   exact ih.trans ⟨.inr,fun h'=>h'.resolve_left fun e=>h e.symm⟩
theorem zrg(m:Map)(a b:zf)(h:PairsOk m.1):∀(n j k:Nat),j+n=m.1.length→n<k→z6y k (j:Int) m a b=mtisR m a b (mtisC a b ((m.1.take j).map fun p=>p.1) (m.1.drop j) j)
 |n,j,0,_,hk=>by omega
 |0,j,k+1,hj,hk=>by
  unfold z6y zbu
  rw[zF (by omega),show m.1.drop j=[] from List.drop_eq_nil_of_le (by omega)];rfl
 |n+1,j,k+1,hj,hk=>by
  have hl:=h.len
  have hlt:j<m.1.length:=by omega
  obtain⟨h1,h2⟩:=h.sz _ (List.getElem_mem hlt)
  have hg:∀d,m.1.getD j d=m.1[j]:=fun d=>by rw[List.getD_eq_getElem?_getD,List.getElem?_eq_getElem hlt];rfl
  unfold z6y zbu
  rw[zT (by omega),zC,zh hlt,Int.toNat_natCast,hg,zkl _ _ (by rw[zj];omega),Option.bind_some,List.drop_eq_getElem_cons hlt]
  simp only[mtisC]
  cases v1:versM m.1[j].1 a.2.1 with
  |false=>
   have:z2o m.1[j] a b=false:=by unfold z2o;rw[v1];rfl
   rw[this,if_neg (by simp)];rfl
  |true=>
   simp only[Bool.not_true,zD]
   rw[zkl _ _ (by rw[zj];omega),Option.bind_some]
   cases v2:versM m.1[j].2.1 b.2.1 with
   |false=>
    have:z2o m.1[j] a b=false:=by unfold z2o;rw[v1,v2];rfl
    rw[this,if_neg (by simp)];rfl
   |true=>
    simp only[Bool.not_true,zD]
    rw[za4 _ (by rw[zj];omega),Option.bind_some,za4 _ (by rw[zj];omega),Option.bind_some]
    cases v3:(reqM m.1[j].1==reqM m.1[j].2.1) with
    |false=>
     have:z2o m.1[j] a b=false:=by unfold z2o;rw[v1,v2,v3];rfl
     rw[this,if_neg (by simp)];rfl
    |true=>
     have:z2o m.1[j] a b=true:=by unfold z2o;rw[v1,v2,v3];rfl
     rw[this,if_pos rfl]
     simp only[Bool.not_true,zD]
     rw[zT (by omega:(0:Int)≤(j:Int)),zT (by omega:(j:Int)≤((m.1.length:Nat):Int)),zC,zC,List.drop_zero,zdp _ _ (by rw[List.length_take,zj];omega),Option.bind_some]
     have hm:=z1m0 m.1[j].1 (m.1.take j)
     by_cases hin:m.1[j].1∈(m.1.take j).map fun p=>p.1
     ·rw[hm.2 hin,if_pos hin];rfl
     ·rw[z4k hm hin,if_neg hin,zD,zo (by omega),zrg m a b h n (j+1) k (by omega) (by omega)]
      congr 2
      rw[List.take_add_one,List.getElem?_eq_getElem hlt,List.map_append]
      rfl
def z1t(x y:Rule):Bool:=(!decide (x.2.1=0)&&decide (x.2.1=y.2.1))||(!decide (x.2.2.1=0)&&decide (x.2.2.1=y.2.2.1))
theorem z1uz(x y:Rule):Q141 x y=some (z1t x y):=by
 unfold Q141 zms z1t
 generalize decide (x.2.1=0)=c1
 generalize decide (x.2.1=y.2.1)=c2
 generalize decide (x.2.2.1=0)=c3
 generalize decide (x.2.2.1=y.2.2.1)=c4
 cases c1<;>cases c2<;>cases c3<;>cases c4<;>rfl
def z32(a b:zf):List Rule→List Rule→Int→Option (Int×Int)
 |_,[],_=>none
 |prev,r::l,i=>if ruleC r a b=0 then(if prev.any (fun q=>z1t q r)=true then some (10,i) else z32 a b (prev++ [r]) l (i+1)) else some (ruleC r a b,i)
def zz0(o:Option (Int×Int)):Option (Sum Zt1 Unit):=some (match o with
 |some e=> .inl (e.1,3,e.2)
 |none=> .inr ())
def z1os(m:Map)(a b:zf)(i:Int)(t:Bool):Sum (Int×Int×Int×Int×Map×zf×zf) (Int×Map×zf×zf):=bif t then .inl (10,3,i,i,m,a,b) else .inr (i,m,a,b)
theorem z152{m:Map}{j:Nat}(hlt:j<m.2.1.length)(d:Rule):m.2.1.getD j d=m.2.1[j]:=by
 rw[List.getD_eq_getElem?_getD,List.getElem?_eq_getElem hlt];rfl
theorem zz5(m:Map)(a b:zf)(i:Nat)(hi:i<m.2.1.length)(hl:m.2.1.length≤1000000):∀(n j k:Nat),j+n=i→n<k→z71 k (i:Int) (j:Int) m a b=some (z1os m a b i (((m.2.1.take i).drop j).any fun q=>z1t q m.2.1[i]))
 |n,j,0,_,hk=>by omega
 |0,j,k+1,hj,hk=>by
  have:j=i:=by omega
  subst this
  unfold z71 zbw
  rw[zF (by omega),List.drop_eq_nil_of_le (by rw[List.length_take];omega)];rfl
 |n+1,j,k+1,hj,hk=>by
  have hlt:j<m.2.1.length:=by omega
  unfold z71 zbw
  have hd:(m.2.1.take i).drop j=m.2.1[j]::(m.2.1.take i).drop (j+1):=by
   rw[List.drop_eq_getElem_cons (by rw[List.length_take];omega)]
   congr 1
   rw[List.getElem_take]
  rw[zT (by omega),zC,zh hlt,zh hi,Int.toNat_natCast,Int.toNat_natCast,z152 hlt,z152 hi,z1uz,Option.bind_some,hd,List.any_cons]
  cases z1t m.2.1[j] m.2.1[i] with
  |true=>rfl
  |false=>
   rw[zD,zo (by omega)]
   dsimp only
   rw[zz5 m a b i hi hl n (j+1) k (by omega) (by omega),Bool.false_or]
theorem zkb(m:Map)(a b:zf)(h:MapOk m)(ha:a.2.2.1.length≤maxLen)(hb:b.2.2.1.length≤maxLen):∀(n j k:Nat),j+n=m.2.1.length→n<k→z6z k (j:Int) m a b=zz0 (z32 a b (m.2.1.take j) (m.2.1.drop j) j)
 |n,j,0,_,hk=>by omega
 |0,j,k+1,hj,hk=>by
  unfold z6z zbv
  rw[zF (by omega),List.drop_eq_nil_of_le (by omega)];rfl
 |n+1,j,k+1,hj,hk=>by
  have hl:=h.len
  have hlt:j<m.2.1.length:=by omega
  unfold z6z zbv
  rw[zT (by omega),zC,zh hlt,Int.toNat_natCast,z152 hlt,z1gb _ a b (h.rules _ (List.getElem_mem hlt)) ha hb,Option.bind_some,List.drop_eq_getElem_cons hlt]
  simp only[z32]
  by_cases z:ruleC m.2.1[j] a b=0
  ·rw[zT z,if_pos z]
   simp only[Bool.not_true,zD]
   have ht:=zz5 m a b j hlt hl j 0 FUEL (by omega) (by rw[zn];omega)
   rw[show((0:Nat):Int)=(0:Int) from rfl,List.drop_zero] at ht
   rw[ht,Option.bind_some]
   cases(m.2.1.take j).any fun q=>z1t q m.2.1[j] with
   |true=>rw[if_pos rfl];rfl
   |false=>
    rw[if_neg (by simp)]
    unfold z1os zma
    simp only[zD,Sum.elim_inr]
    rw[zo (by omega),zkb m a b h ha hb n (j+1) k (by omega) (by omega)]
    congr 2
    rw[List.take_add_one,List.getElem?_eq_getElem hlt]
    rfl
  ·rw[zF z,if_neg z];rfl
def mapC(m:Map)(a b:zf):Int×Int×Int:=
 if(z14 a).1=0 then(if(z14 b).1=0 then(if 256<m.1.length then(5,2,256) else match mtisC a b [] m.1 0 with
  |some e=>(e.1,2,e.2)
  |none=>if 256<m.2.1.length then(5,3,256) else match z32 a b [] m.2.1 0 with
   |some e=>(e.1,3,e.2)
   |none=>(0,0,0)) else(1,1,1)) else(1,1,0)
theorem zdq(m:Map)(a b:zf)(h:MapOk m)(ha:a.2.2.1.length≤maxLen)(hb:b.2.2.1.length≤maxLen):Q135 m a b=some (mapC m a b):=by
 have h1:=h.mtis.len
 have h2:=h.len
 unfold Q135 zm8 mapC
 rw[z6a a ha,Option.bind_some]
 by_cases za:(z14 a).1=0
 ·rw[zT za,if_pos za]
  simp only[Bool.not_true,zD]
  rw[z6a b hb,Option.bind_some]
  by_cases zb:(z14 b).1=0
  ·rw[zT zb,if_pos zb]
   simp only[Bool.not_true,zD]
   by_cases hm:256<m.1.length
   ·rw[zT (by omega),if_pos hm];rfl
   ·rw[zF (by omega),if_neg hm,zD]
    have e1:=zrg m a b h.mtis m.1.length 0 FUEL (by omega) (by rw[zn];omega)
    rw[show((0:Nat):Int)=(0:Int) from rfl,List.take_zero,List.drop_zero,List.map_nil] at e1
    rw[e1]
    unfold mtisR
    cases mtisC a b [] m.1 0 with
    |some e=>rfl
    |none=>
     simp only[Option.bind_some,Sum.elim_inr]
     unfold zm9
     by_cases hr:256<m.2.1.length
     ·rw[zT (by omega),if_pos hr];rfl
     ·rw[zF (by omega),if_neg hr,zD]
      have e2:=zkb m a b h ha hb m.2.1.length 0 FUEL (by omega) (by rw[zn];omega)
      rw[show((0:Nat):Int)=(0:Int) from rfl,List.take_zero,List.drop_zero] at e2
      dsimp only
      rw[e2]
      unfold zz0
      cases z32 a b [] m.2.1 0<;>rfl
  ·rw[zF zb,if_neg zb];rfl
 ·rw[zF za,if_neg za];rfl
end Groat

namespace Groat
open Go.IntKind renaming wrap→zW,i64→zI,u8→zU
open Go Go.Ref
theorem z171(l:List Int)(f:Int):setH (l++ [f])=setH l|||setH [f]:=by simp [setH,List.foldl_append]
theorem z172(l:List Int)(f:Int):setL (l++ [f])=setL l|||setL [f]:=by simp [setL,List.foldl_append]
theorem z15q(fs:List Int)(f:Int):(setH fs&&&setH [f]=0∧setL fs&&&setL [f]=0)↔¬(f∈fs∧inR f=true):=by
 constructor
 ·rintro⟨h1,h2⟩ ⟨h3,h4⟩
  have:=z1fe (setH fs) (setL fs) (setH [f]) (setL [f]) f
  rw[h1,h2,z16g,z4e,z4e,h4] at this
  simp [h3] at this
 ·intro h
  refine zqq (z1ly (z26 fs)) (z1ly (z2b fs)) (by decide) (by decide) fun n _ _=> ?_
  rw[z16g,z1fe,z4e,z4e]
  by_cases e:n=f
  ·subst e
   cases hr:inR n with
   |false=>simp
   |true=>
    have:n∉fs:=fun hm=>h ⟨hm,hr⟩
    simp [this]
  ·simp [e]
theorem z1d7(x y:Nat):(decide (((x:Nat):Int)=0)&&(decide (((y:Nat):Int)=0)&&true))=decide (x=0∧y=0):=by
 rw[Bool.and_true,←Bool.decide_and]
 exact decide_eq_decide.2 (by omega)
theorem zyf{s:zf}(h:Okay s){no:Int}(hh:hasS s no=true):inR no=true:=by
 unfold hasS findS at hh
 obtain⟨x,hx⟩:=Option.isSome_iff_exists.1 hh
 have h1:=List.find?_some hx
 have h2:=List.mem_of_find?_eq_some hx
 have h3:=zeu (h.2.2.2.1 x h2)
 have h4:x.1=no:=of_decide_eq_true h1
 unfold inR
 exact zT (by omega)
theorem z1hj{r:Rule}{a b:zf}(h:ruleC r a b=0):endsE r a b=false:=by
 unfold ruleC at h
 cases hc:(decide (r.1<1)||decide ((5:Int)<r.1)) with
 |true=>rw[hc] at h;simp at h
 |false=>
  rw[hc] at h
  cases he:endsE r a b with
  |false=>rfl
  |true=>rw[he] at h;simp at h
theorem z1up{r:Rule}{a b:zf}(ha:Okay a)(hb:Okay b)(h:ruleC r a b=0):(r.2.1≠0→inR r.2.1=true)∧(r.2.2.1≠0→inR r.2.2.1=true):=by
 have he:=z1hj h
 unfold endsE at he
 rw[Bool.or_eq_false_iff] at he
 refine⟨fun hz=> ?_,fun hz=> ?_⟩
 ·by_cases k:r.1=3
  ·rw[zT k,zF hz] at he;simp at he
  ·rw[zF k] at he
   exact zyf ha (by simpa using he.1)
 ·by_cases k:r.1=2
  ·rw[zT k,zF hz] at he;simp at he
  ·rw[zF k] at he
   exact zyf hb (by simpa using he.2)
def froms(l:List Rule):List Int:=l.map fun q=>q.2.1
def tos(l:List Rule):List Int:=l.map fun q=>q.2.2.1
theorem z1bt:inR 0=false:=by decide
theorem z1ot(prev:List Rule)(r:Rule)(h1:r.2.1≠0→inR r.2.1=true)(h2:r.2.2.1≠0→inR r.2.2.1=true):
 prev.any (fun q=>z1t q r)=(!decide (¬(r.2.1∈froms prev∧inR r.2.1=true))|| !decide (¬(r.2.2.1∈tos prev∧inR r.2.2.1=true))):=by
 have e:prev.any (fun q=>z1t q r)=true↔((r.2.1∈froms prev∧inR r.2.1=true)∨(r.2.2.1∈tos prev∧inR r.2.2.1=true)):=by
  rw[List.any_eq_true]
  unfold z1t froms tos
  simp only[List.mem_map]
  constructor
  ·rintro⟨q,hq,h⟩
   simp only[Bool.or_eq_true,Bool.and_eq_true,Bool.not_eq_true',decide_eq_false_iff_not,decide_eq_true_eq] at h
   rcases h with⟨g1,g2⟩|⟨g1,g2⟩
   ·exact .inl ⟨⟨q,hq,g2⟩,h1 (by rw[←g2];exact g1)⟩
   ·exact .inr ⟨⟨q,hq,g2⟩,h2 (by rw[←g2];exact g1)⟩
  ·rintro(⟨⟨q,hq,g⟩,hr⟩|⟨⟨q,hq,g⟩,hr⟩)
   ·refine⟨q,hq,?_⟩
    have:q.2.1≠0:=fun e=>by rw[←g,e,z1bt] at hr;cases hr
    rw[zF this,zT g];rfl
   ·refine⟨q,hq,?_⟩
    have:q.2.2.1≠0:=fun e=>by rw[←g,e,z1bt] at hr;cases hr
    rw[zF this,zT g];simp
 cases hb:prev.any (fun q=>z1t q r) with
 |true=>
  rcases e.1 hb with h|h
  ·rw[zF (fun hn=>hn h)];rfl
  ·rw[show decide (¬(r.2.2.1∈tos prev∧inR r.2.2.1=true))=false from zF (fun hn=>hn h)];simp
 |false=>
  have hn:=fun h=>(by rw[hb] at e;exact absurd (e.2 h) (by simp):False)
  rw[zT (show¬(r.2.1∈froms prev∧inR r.2.1=true) from fun h=>hn (.inl h)),zT (show¬(r.2.2.1∈tos prev∧inR r.2.2.1=true) from fun h=>hn (.inr h))];rfl
abbrev S2:=Int×Int×Unit
def fsS(l:List Int):S2:=((setH l:Int),(setL l:Int),())
theorem z170(a b:zf)(ha:a.2.2.1.length≤maxLen)(hb:b.2.2.1.length≤maxLen)(oa:Okay a)(ob:Okay b):∀(l:List Rule) (i:Int) (prev:List Rule),(∀r∈l,RuleOk r)→
 runI (fun i (x:Rule) (s:S2×S2) K=>((Q217 x a b).bind fun r3=>(bif(!decide (r3=0)) then some (Sum.inl (r3,(3:Int),i)) else((Q33 ([x.2.1]:List Int)).bind fun r4=>((Q33 ([x.2.2.1]:List Int)).bind fun r5=>((Q34 s.1 r4).bind fun r6=>(bif(!(decide (r6.1=0)&&(decide (r6.2.1=0)&&true))) then some (Sum.inl ((10:Int),(3:Int),i)) else((Q34 s.2 r5).bind fun r7=>(bif(!(decide (r7.1=0)&&(decide (r7.2.1=0)&&true))) then some (Sum.inl ((10:Int),(3:Int),i)) else((Q35 s.1 r4).bind fun r8=>((Q35 s.2 r5).bind fun r9=>K (r8,r9)))))))))))) (fun _=>some (Sum.inr ())) l i (fsS (froms prev),fsS (tos prev))=zz0 (z32 a b prev l i)
 | [],i,prev,_=>rfl
 |r::l,i,prev,h=>by
  simp only[runI,z32]
  rw[z1ck r a b (h r List.mem_cons_self) ha hb,Option.bind_some]
  by_cases z:ruleC r a b=0
  ·rw[zT z,if_pos z]
   simp only[Bool.not_true,zD]
   obtain⟨i1,i2⟩:=z1up oa ob z
   have hany:=z1ot prev r i1 i2
   rw[Of_eq _ (by simp [zj]),Option.bind_some,Of_eq _ (by simp [zj]),Option.bind_some]
   unfold fsS
   rw[z1dz _ _ _ _ (z26 _) (z2b _) (z26 _) (z2b _),Option.bind_some]
   dsimp only
   rw[z1d7,decide_eq_decide.2 (z15q (froms prev) r.2.1)]
   by_cases c1:¬(r.2.1∈froms prev∧inR r.2.1=true)
   ·rw[zT c1] at hany⊢
    simp only[Bool.not_true,zD]
    rw[z1dz _ _ _ _ (z26 _) (z2b _) (z26 _) (z2b _),Option.bind_some]
    dsimp only
    rw[z1d7,decide_eq_decide.2 (z15q (tos prev) r.2.2.1)]
    by_cases c2:¬(r.2.2.1∈tos prev∧inR r.2.2.1=true)
    ·rw[zT c2] at hany⊢
     rw[hany]
     simp only[Bool.not_true,zD,Bool.or_false]
     rw[if_neg (by simp),zf5 _ _ _ _ (z26 _) (z2b _) (z26 _) (z2b _),Option.bind_some,zf5 _ _ _ _ (z26 _) (z2b _) (z26 _) (z2b _),Option.bind_some]
     have:=z170 a b ha hb oa ob l (i+1) (prev++ [r]) (fun q hq=>h q (List.mem_cons_of_mem _ hq))
     rw[show froms (prev++ [r])=froms prev++ [r.2.1] by simp [froms],show tos (prev++ [r])=tos prev++ [r.2.2.1] by simp [tos]] at this
     unfold fsS at this
     rw[z171,z172,z171,z172] at this
     exact this
    ·rw[zF c2] at hany⊢
     rw[hany];rfl
   ·rw[zF c1] at hany⊢
    rw[hany];rfl
  ·rw[zF z,if_neg z];rfl
theorem z1cl(m:Map)(a b:zf)(ha:a.2.2.1.length≤maxLen)(hb:b.2.2.1.length≤maxLen):z9b FUEL ([a,b]:List zf) ((List.length ([a,b]:List zf)):Int) 0 m a b=some (if(z14 a).1=0 then(if(z14 b).1=0 then .inr (m,a,b) else .inl (1,1,1,m,a,b)) else .inl (1,1,0,m,a,b)):=by
 obtain⟨k,hk⟩:=fuel3
 rw[hk]
 simp only[z9b,zq1]
 have w0:∀{R:Type} (x:Option R),zd 0 ([a,b]:List zf).length x=x:=fun x=>zl (by omega) (by simp)
 have w1:∀{R:Type} (x:Option R),zd 1 ([a,b]:List zf).length x=x:=fun x=>zl (by omega) (by simp)
 have e1:zW zI (0+1)=1:=rfl
 have e2:zW zI (1+1)=2:=rfl
 have d0:decide ((0:Int)<(([a,b]:List zf).length:Int))=true:=rfl
 have d1:decide ((1:Int)<(([a,b]:List zf).length:Int))=true:=rfl
 have d2:decide ((2:Int)<(([a,b]:List zf).length:Int))=false:=rfl
 rw[d0,zC,w0,show List.getD ([a,b]:List zf) (0:Int).toNat ((0:Int),(0:Int),([]:List Spec),())=a from rfl,z9j a ha,Option.bind_some]
 by_cases za:(z14 a).1=0
 ·rw[zT za,if_pos za]
  simp only[Bool.not_true,zD]
  rw[e1,d1,zC,w1,show List.getD ([a,b]:List zf) (1:Int).toNat ((0:Int),(0:Int),([]:List Spec),())=b from rfl,z9j b hb,Option.bind_some]
  by_cases zb:(z14 b).1=0
  ·rw[zT zb,if_pos zb]
   simp only[Bool.not_true,zD]
   rw[e2,d2,zD]
  ·rw[zF zb,if_neg zb];rfl
 ·rw[zF za,if_neg za];rfl
abbrev rule0:Rule:=(0,0,0,bs [],[],())
theorem z8a(m:Map)(a b:zf)(h:MapOk m)(ha:a.2.2.1.length≤maxLen)(hb:b.2.2.1.length≤maxLen):Q251 m a b=some (mapC m a b):=by
 have h1:=h.mtis.len
 have h2:=h.len
 unfold Q251 zq0 mapC
 dsimp only
 rw[z1cl m a b ha hb,Option.bind_some]
 by_cases za:(z14 a).1=0
 ·rw[if_pos za,if_pos za]
  by_cases zb:(z14 b).1=0
  ·rw[if_pos zb,if_pos zb]
   simp only[Sum.elim_inr]
   unfold zq2
   by_cases hm:256<m.1.length
   ·rw[zT (by omega),if_pos hm];rfl
   ·rw[zF (by omega),if_neg hm,zD]
    dsimp only
    rw[z1no m a b h.mtis]
    unfold mtisR
    cases mtisC a b [] m.1 0 with
    |some e=>rfl
    |none=>
     simp only[Option.bind_some,Sum.elim_inr]
     unfold zq3
     by_cases hr:256<m.2.1.length
     ·rw[zT (by omega),if_pos hr];rfl
     ·rw[zF (by omega),if_neg hr,zD]
      dsimp only
      have:=loopI rule0 m.2.1 (by rw[zj];omega) (fun i (x:Rule) (s:S2×S2) K=>((Q217 x a b).bind fun r3=>(bif(!decide (r3=0)) then some (Sum.inl (r3,(3:Int),i)) else((Q33 ([x.2.1]:List Int)).bind fun r4=>((Q33 ([x.2.2.1]:List Int)).bind fun r5=>((Q34 s.1 r4).bind fun r6=>(bif(!(decide (r6.1=0)&&(decide (r6.2.1=0)&&true))) then some (Sum.inl ((10:Int),(3:Int),i)) else((Q34 s.2 r5).bind fun r7=>(bif(!(decide (r7.1=0)&&(decide (r7.2.1=0)&&true))) then some (Sum.inl ((10:Int),(3:Int),i)) else((Q35 s.1 r4).bind fun r8=>((Q35 s.2 r5).bind fun r9=>K (r8,r9)))))))))))) (fun _=>some (Sum.inr ()))
       (fun k i s=>zcu k m.2.1 (m.2.1.length:Int) i a b s.1 s.2) (fun k i s=>rfl) (fsS (froms []),fsS (tos []))
      have h3:=z170 a b ha hb ((z2p a).1 za) ((z2p b).1 zb) m.2.1 0 [] h.rules
      rw[h3] at this
      have h4:fsS (froms [])=((0:Int),(0:Int),()):=rfl
      have h5:fsS (tos [])=((0:Int),(0:Int),()):=rfl
      rw[h4,h5] at this
      rw[this]
      unfold zz0
      cases z32 a b [] m.2.1 0<;>rfl
  ·rw[if_neg zb,if_neg zb];rfl
 ·rw[if_neg za,if_neg za];rfl
end Groat

namespace Groat
open Go.IntKind renaming wrap→zW,i64→zI,u8→zU
open Go Go.Ref
instance ruleDec:DecidableEq Rule:=fun x y=>decidable_of_iff ((decide (x.1=y.1)&&(decide (x.2.1=y.2.1)&&(decide (x.2.2.1=y.2.2.1)&&(decide (x.2.2.2.1=y.2.2.2.1)&&decide (x.2.2.2.2.1=y.2.2.2.2.1)))))=true) (by obtain⟨a1,a2,a3,a4,a5,u⟩:=x;obtain⟨b1,b2,b3,b4,b5,v⟩:=y;simp)
instance mapDec:DecidableEq Map:=fun x y=>decidable_of_iff ((decide (x.1=y.1)&&decide (x.2.1=y.2.1))=true) (by obtain⟨a1,a2,u⟩:=x;obtain⟨b1,b2,v⟩:=y;simp)
def turnR(r:Rule):Rule:=(r.1,r.2.2.1,r.2.1,r.2.2.2.1,turnP r.2.2.2.2.1,())
def turnM(m:Map):Map:=(turnP m.1,m.2.1.map turnR,())
abbrev map0:Map:=([],[],())
theorem z1hv(r:Rule)(h:RuleOk r):Q133 r=some r:=by
 unfold Q133 zm2
 rw[z156 _ h.pairs.len];rfl
theorem z15w:∀(l:List Rule) (i:Int) (s:Map×Map),(∀r∈l,RuleOk r)→s.2.2.1.length+l.length≤1099511627776→
 runI (fun i (x:Rule) (s:Map×Map) K=>((Q133 x).bind fun r2=>(bif(decide ((s.2.2.1.length+(List.length ([r2]:List Rule)))*64≤140737488355328)) then K (s.1,(s.2.1,(s.2.2.1++([r2]:List Rule)),())) else none))) (fun s=>some s) l i s=some (s.1,(s.2.1,s.2.2.1++l,()))
 | [],i,s,_,_=>by simp only[runI,List.append_nil]
 |r::l,i,s,h,hl=>by
  simp only[List.length_cons] at hl
  simp only[runI]
  rw[z1hv r (h r List.mem_cons_self),Option.bind_some,zT (by simp;omega),zC]
  have:=z15w l (i+1) (s.1,(s.2.1,(s.2.2.1++ [r]),())) (fun q hq=>h q (List.mem_cons_of_mem _ hq)) (by simp;omega)
  refine Eq.trans this ?_
  simp
theorem z157(m:Map)(h:MapOk m):Q136 m=some m:=by
 have hl:=h.len
 unfold Q136 zmc
 dsimp only
 rw[z156 _ h.mtis.len,Option.bind_some]
 have:=loopI rule0 m.2.1 (by rw[zj];omega) (fun i (x:Rule) (s:Map×Map) K=>((Q133 x).bind fun r2=>(bif(decide ((s.2.2.1.length+(List.length ([r2]:List Rule)))*64≤140737488355328)) then K (s.1,(s.2.1,(s.2.2.1++([r2]:List Rule)),())) else none))) (fun s=>some s)
  (fun k i s=>zbx k i m s.1 s.2) (fun k i s=>rfl) (map0,(m.1,[],()))
 rw[z15w _ _ _ h.rules (by simp;omega)] at this
 rw[this]
 rfl
end Groat

namespace Groat
open Go.IntKind renaming wrap→zW,i64→zI,u8→zU
open Go Go.Ref
structure Rule0(r:Rule)(a b:zf):Prop where
 lo:¬r.1<1
 hi:¬(5:Int)<r.1
 ends:endsE r a b=false
 text:textE r=false
 kind:kindC r (getS a r.2.1) (getS b r.2.2.1)=0
theorem z8h{a b:zf}:∀{l:List Pair} {seen:List ByteArray} {i:Int},mtisC a b seen l i=none↔(∀p∈l,z2o p a b=true)∧dupP seen l i=none
 | [],seen,i=>by simp [mtisC,dupP]
 |p::r,seen,i=>by
  simp only[mtisC,dupP,List.mem_cons,forall_eq_or_imp]
  cases ht:z2o p a b with
  |false=>simp
  |true=>
   rw[if_pos rfl]
   by_cases hm:p.1∈seen
   ·simp [hm]
   ·rw[if_neg hm,if_neg hm,z8h]
    simp
def z8m:List Rule→List Rule→Prop
 |_,[]=>True
 |prev,r::l=>prev.any (fun q=>z1t q r)=false∧z8m (prev++ [r]) l
theorem z7r{a b:zf}:∀{l:List Rule} {prev:List Rule} {i:Int},z32 a b prev l i=none↔(∀r∈l,ruleC r a b=0)∧z8m prev l
 | [],prev,i=>by simp [z32,z8m]
 |r::l,prev,i=>by
  simp only[z32,z8m,List.mem_cons,forall_eq_or_imp]
  by_cases z:ruleC r a b=0
  ·rw[if_pos z]
   cases hp:prev.any (fun q=>z1t q r) with
   |true=>simp
   |false=>
    rw[if_neg (by simp),z7r]
    simp [z]
  ·rw[if_neg z];simp [z]
theorem zyr{a b:zf}:∀{l:List Pair} {seen:List ByteArray} {i:Int} {e:Int×Int},mtisC a b seen l i=some e→e.1≠0
 |p::r,seen,i,e,h=>by
  simp only[mtisC] at h
  split at h
  ·split at h
   ·cases h;simp
   ·exact zyr h
  ·cases h;simp
theorem zrl{a b:zf}:∀{l:List Rule} {prev:List Rule} {i:Int} {e:Int×Int},z32 a b prev l i=some e→e.1≠0
 |r::l,prev,i,e,h=>by
  simp only[z32] at h
  split at h
  ·split at h
   ·cases h;simp
   ·exact zrl h
  ·rename_i hz
   cases h;exact hz
structure Map0(m:Map)(a b:zf):Prop where
 sa:(z14 a).1=0
 sb:(z14 b).1=0
 len1:m.1.length≤256
 typed:∀p∈m.1,z2o p a b=true
 dup:dupP [] m.1 0=none
 len2:m.2.1.length≤256
 rules:∀r∈m.2.1,ruleC r a b=0
 twice:z8m [] m.2.1
theorem ztp{m:Map}{a b:zf}:(mapC m a b).1=0↔Map0 m a b:=by
 constructor
 ·intro h
  unfold mapC at h
  split at h
  ·split at h
   ·rename_i h1 h2
    split at h
    ·cases h
    ·rename_i h3
     split at h
     ·rename_i e he
      exact absurd h (zyr he)
     ·rename_i hm
      split at h
      ·cases h
      ·rename_i h4
       split at h
       ·rename_i e he
        exact absurd h (zrl he)
       ·rename_i hr
        obtain⟨g1,g2⟩:=z8h.1 hm
        obtain⟨g3,g4⟩:=z7r.1 hr
        exact⟨h1,h2,by omega,g1,g2,by omega,g3,g4⟩
   ·cases h
  ·cases h
 ·intro h
  unfold mapC
  have e1:=z8h.2 ⟨h.typed,h.dup⟩
  have e2:z32 a b [] m.2.1 0=none:=z7r.2 ⟨h.rules,h.twice⟩
  have l1:=h.len1
  have l2:=h.len2
  rw[if_pos h.sa,if_pos h.sb,if_neg (by omega),e1]
  simp only
  rw[if_neg (by omega),e2]
theorem Map0.eq{m:Map}{a b:zf}(h:Map0 m a b):mapC m a b=(0,0,0):=by
 unfold mapC
 have e1:=z8h.2 ⟨h.typed,h.dup⟩
 have e2:z32 a b [] m.2.1 0=none:=z7r.2 ⟨h.rules,h.twice⟩
 have l1:=h.len1
 have l2:=h.len2
 rw[if_pos h.sa,if_pos h.sb,if_neg (by omega),e1]
 simp only
 rw[if_neg (by omega),e2]
theorem PairsOk.turn{l:List Pair}(h:PairsOk l):PairsOk (turnP l):=⟨by rw[z1oq];exact h.len,fun p hp=>by
 unfold turnP at hp
 obtain⟨q,hq,rfl⟩:=List.mem_map.1 hp
 exact⟨(h.sz q hq).2,(h.sz q hq).1⟩⟩
theorem MapOk.turn{m:Map}(h:MapOk m):MapOk (turnM m):=⟨h.mtis.turn,by show(m.2.1.map turnR).length≤_;rw[List.length_map];exact h.len,fun r hr=>by
 obtain⟨q,hq,rfl⟩:=List.mem_map.1 (show r∈m.2.1.map turnR from hr)
 exact⟨(h.rules q hq).text,(h.rules q hq).pairs.turn⟩⟩
end Groat

namespace Groat
open Go.IntKind renaming wrap→zW,i64→zI,u8→zU
open Go Go.Ref
theorem z1u6(l:List Val)(no:Int)(t:ByteArray):(insV l no t).length=l.length+1:=by
 unfold insV
 rcases z5i no l 0 (Int.le_refl _) with⟨h1,_⟩|h1
 ·rw[h1,zT (by omega:(-1:Int)<0),zC,List.length_append];rfl
 ·rw[zF (by omega:¬idxGt no l 0<0),zD,List.length_append,List.length_take,List.length_cons,List.length_drop]
  omega
theorem zb0(m:Msg)(no:Int)(t:ByteArray):(withM m no t).2.1.length≤m.2.1.length+1:=by
 show(insV (dropV m.2.1 no) no t).length≤_
 rw[z1u6]
 have:=zjg m.2.1 no
 omega
theorem z1vb(m:Map)(t:ByteArray)(h:m.1.length≤maxLen):Q254 m t=some (zp m.1 t):=by
 unfold Q254 zqb
 dsimp only
 have:=loopI pair0 m.1 h (fun i (x:Pair) (s:Unit) K=>bif decide (x.1=t) then some (Sum.inl (x.2.1,true)) else K s) (fun _=>some (Sum.inr ()))
  (fun k i s=>zcy k t m.1 (m.1.length:Int) i) (fun k i s=>rfl) ()
 rw[this,zdf]
 unfold zp
 cases m.1.find? fun p=>decide (p.1=t)<;>rfl
def findR(m:Map)(no:Int):Option Rule:=m.2.1.find? fun r=>decide (r.2.1=no)
def findX(o:Option Rule):Option (Sum (Bool×Rule) Rule):=some (match o with
 |some r=> .inl (true,r)
 |none=> .inr rule0)
theorem z1bc(no:Int):∀(l:List Rule) (i:Int),runI (fun i (x:Rule) (s:Unit) K=>(bif(decide (x.2.1=no)) then some (Sum.inl (true,x)) else K s)) (fun _=>some (Sum.inr rule0)) l i ()=findX (l.find? fun r=>decide (r.2.1=no))
 | [],i=>rfl
 |x::r,i=>by
  rw[runI,List.find?_cons]
  cases hx:decide (x.2.1=no) with
  |true=>rfl
  |false=>rw[zD];exact z1bc no r (i+1)
theorem z1p7(m:Map)(no:Int)(h:m.2.1.length≤maxLen):Q253 m no=some (match findR m no with
 |some r=>(r,true)
 |none=>(rule0,false)):=by
 unfold Q253 zq9 findR
 dsimp only
 have:=loopI rule0 m.2.1 h (fun i (x:Rule) (s:Unit) K=>(bif(decide (x.2.1=no)) then some (Sum.inl (true,x)) else K s)) (fun _=>some (Sum.inr rule0))
  (fun k i s=>zcx k no m.2.1 (m.2.1.length:Int) i rule0) (fun k i s=>rfl) ()
 rw[this,z1bc]
 unfold findX
 cases m.2.1.find? fun r=>decide (r.2.1=no)<;>rfl
def z2v:List Rule→Msg→Msg
 | [],out=>out
 |r::l,out=>z2v l (bif decide (r.1=3) then withM out r.2.2.1 r.2.2.2.1 else out)
theorem zb7:∀(l:List Rule) (out:Msg),(z2v l out).2.1.length≤out.2.1.length+l.length
 | [],out=>Nat.le_refl _
 |r::l,out=>by
  rw[z2v,List.length_cons]
  cases decide (r.1=3) with
  |true=>rw[zC];have:=zb7 l (withM out r.2.2.1 r.2.2.2.1);have:=zb0 out r.2.2.1 r.2.2.2.1;omega
  |false=>rw[zD];have:=zb7 l out;omega
theorem zef{ρ:Type}(fin:Msg→Option ρ):∀(l:List Rule) (i:Int) (out:Msg),out.2.1.length+l.length≤1000000→
 runI (fun i (x:Rule) (s:Msg) K=>(bif(decide (x.1=(3:Int))) then((Q186 s x.2.2.1 x.2.2.2.1).bind fun r4=>K r4) else K s)) fin l i out=fin (z2v l out)
 | [],i,out,_=>rfl
 |r::l,i,out,h=>by
  simp only[List.length_cons] at h
  rw[runI,z2v]
  cases decide (r.1=3) with
  |true=>
   rw[zC,zC,zdu out _ _ (by omega),zc]
   have:=zb0 out r.2.2.1 r.2.2.2.1
   exact zef fin l (i+1) _ (by omega)
  |false=>
   rw[zD,zD]
   exact zef fin l (i+1) out (by omega)
def z62(m:Map)(b:zf):List Val→Msg→Sum (Fault×Msg) Msg
 | [],out=> .inr out
 |v::r,out=>match findR m v.1 with
  |none=> .inl ((9,v.1,()),out)
  |some q=>bif !decide ((zy q b v.2.1).2=0) then .inl (((zy q b v.2.1).2,v.1,()),out) else z62 m b r (bif !decide ((zy q b v.2.1).1.1=0) then withM out (zy q b v.2.1).1.1 (zy q b v.2.1).1.2.1 else out)
abbrev msg0:Msg:=(bs [],[],())
def z1ba(o:Sum (Fault×Msg) Msg):Option (Sum (Msg×Fault×Msg) (Msg×Fault×Msg)):=some (match o with
 | .inl (f,out)=> .inl (msg0,f,out)
 | .inr out=> .inr (msg0,zu,out))
theorem z63{m:Map}{no:Int}{r:Rule}(h:findR m no=some r):r∈m.2.1∧r.2.1=no:=⟨List.mem_of_find?_eq_some h,by simpa using List.find?_some h⟩
theorem zbc(m:Map)(b:zf)(hm:MapOk m)(hb:b.2.2.1.length≤maxLen):∀(l:List Val) (i:Int) (out:Msg),out.2.1.length+l.length≤1000000→(∀v∈l,v.2.1.size≤1099511627776)→
 runI (fun i (x:Val) (s:Msg) K=>((Q253 m x.1).bind fun r5=>(bif(!r5.2) then some (Sum.inl (msg0,((9:Int),x.1,()),s)) else((Q216 r5.1 b x.2.1).bind fun r6=>(bif(!(decide (r6.2=(0:Int)))) then some (Sum.inl (msg0,(r6.2,x.1,()),s)) else(bif(!(decide (r6.1.1=(0:Int)))) then((Q186 s r6.1.1 r6.1.2.1).bind fun r7=>K r7) else K s)))))) (fun s=>some (Sum.inr (msg0,zu,s))) l i out=z1ba (z62 m b l out)
 | [],i,out,_,_=>rfl
 |v::r,i,out,h,ht=>by
  simp only[List.length_cons] at h
  have hl:=hm.len
  have hv:=ht v List.mem_cons_self
  rw[runI,z1p7 m v.1 (by rw[zj];omega),zc,z62]
  cases hf:findR m v.1 with
  |none=>rfl
  |some q=>
   dsimp only
   obtain⟨q1,_⟩:=z63 hf
   have qp:=(hm.rules q q1).pairs.len
   rw[Bool.not_true,zD,z1cj q b v.2.1 (by rw[zj];omega) hb (by rw[zj];omega),zc]
   generalize zy q b v.2.1=y
   cases decide (y.2=0) with
   |false=>rfl
   |true=>
    rw[Bool.not_true,zD,zD]
    cases decide (y.1.1=0) with
    |true=>
     rw[Bool.not_true,zD,zD]
     exact zbc m b hm hb r (i+1) out (by omega) (fun w hw=>ht w (List.mem_cons_of_mem _ hw))
    |false=>
     rw[Bool.not_false,zC,zC,zdu out _ _ (by omega),zc]
     have:=zb0 out y.1.1 y.1.2.1
     exact zbc m b hm hb r (i+1) _ (by omega) (fun w hw=>ht w (List.mem_cons_of_mem _ hw))
def z33(m:Map)(a b:zf)(x:Msg):Msg×Fault:=
 bif !decide ((mapC m a b).1=0) then(msg0,(1,-1,())) else bif !decide ((msgC a x).1=0) then(msg0,msgC a x) else bif !(zp m.1 x.1).2 then(msg0,(7,0,()))
 else match z62 m b x.2.1 (z2v m.2.1 ((zp m.1 x.1).1,[],())) with
  | .inl (f,_)=>(msg0,f)
  | .inr out=>(out,zu)
theorem z1af(m:Map)(a b:zf)(x:Msg)(hm:MapOk m)(hm2:m.2.1.length≤900000)(hx:MsgOk x)(hx2:x.2.1.length≤90000)(ha:a.2.2.1.length≤maxLen)(hb:b.2.2.1.length≤maxLen):Q252 m a b x=some (z33 m a b x):=by
 have hl:=hm.mtis.len
 unfold Q252 zq6 z33
 rw[z8a m a b hm ha hb,zc]
 cases decide ((mapC m a b).1=0) with
 |false=>rfl
 |true=>
  rw[Bool.not_true,zD,zD,zrf a x ha hx,zc]
  cases decide ((msgC a x).1=0) with
  |false=>rfl
  |true=>
   rw[Bool.not_true,zD,zD,z1vb m x.1 (by rw[zj];omega),zc]
   cases(zp m.1 x.1).2 with
   |false=>rfl
   |true=>
    rw[Bool.not_true,zD,zD]
    dsimp only
    have h1:=loopI rule0 m.2.1 (by rw[zj];omega) (fun i (x:Rule) (s:Msg) K=>(bif(decide (x.1=(3:Int))) then((Q186 s x.2.2.1 x.2.2.2.1).bind fun r4=>K r4) else K s)) (fun s=>some (m,b,x,msg0,zu,s))
     (fun k i s=>zcv k m.2.1 (m.2.1.length:Int) i m b x msg0 zu s) (fun k i s=>rfl) ((zp m.1 x.1).1,[],())
    rw[h1,zef _ _ _ _ (by simp;omega),zc]
    unfold zq7
    dsimp only
    have hc:=zb7 m.2.1 ((zp m.1 x.1).1,[],())
    have hc:(z2v m.2.1 ((zp m.1 x.1).1,[],())).2.1.length≤m.2.1.length:=by simpa using hc
    have h2:=loopI vnil x.2.1 (by rw[zj];omega) (fun i (x:Val) (s:Msg) K=>((Q253 m x.1).bind fun r5=>(bif(!r5.2) then some (Sum.inl (msg0,((9:Int),x.1,()),s)) else((Q216 r5.1 b x.2.1).bind fun r6=>(bif(!(decide (r6.2=(0:Int)))) then some (Sum.inl (msg0,(r6.2,x.1,()),s)) else(bif(!(decide (r6.1.1=(0:Int)))) then((Q186 s r6.1.1 r6.1.2.1).bind fun r7=>K r7) else K s)))))) (fun s=>some (Sum.inr (msg0,zu,s)))
     (fun k i s=>zcw k x.2.1 (x.2.1.length:Int) i m b msg0 zu s) (fun k i s=>rfl) (z2v m.2.1 ((zp m.1 x.1).1,[],()))
    rw[h2,zbc m b hm hb _ _ _ (by omega) hx.txt]
    unfold z1ba
    cases z62 m b x.2.1 (z2v m.2.1 ((zp m.1 x.1).1,[],())) with
    |inl p=>obtain⟨f,o⟩:=p;rfl
    |inr o=>rfl
end Groat

namespace Groat
open Go.IntKind renaming wrap→zW,i64→zI,u8→zU
open Go Go.Ref
abbrev Ris(l:List Val):Prop:=l.Pairwise fun x y=>x.1<y.1
def insR(no:Int)(t:ByteArray):List Val→List Val
 | []=>[(no,t,())]
 |x::r=>if no<x.1 then(no,t,())::x::r else x::insR no t r
theorem zrd(no:Int):∀(l:List Val) (i d:Int),0≤i→0≤d→idxGt no l (i+d)=if idxGt no l i<0 then-1 else idxGt no l i+d
 | [],i,d,_,_=>by unfold idxGt;rw[if_pos (by omega)]
 |x::r,i,d,hi,hd=>by
  unfold idxGt
  by_cases hx:no<x.1
  ·rw[if_pos hx,if_pos hx,if_neg (by omega)]
  ·rw[if_neg hx,if_neg hx,show i+d+1=(i+1)+d by omega]
   exact zrd no r (i+1) d (by omega) hd
theorem zqm(no:Int)(t:ByteArray):∀l:List Val,insV l no t=insR no t l
 | []=>rfl
 |x::r=>by
  have ih:=zqm no t r
  unfold insV at ih⊢
  unfold insR
  by_cases hx:no<x.1
  ·have:idxGt no (x::r) 0=0:=by unfold idxGt;rw[if_pos hx]
   rw[this,if_pos hx];rfl
  ·rw[if_neg hx,←ih]
   have h0:idxGt no (x::r) 0=idxGt no r (0+1):=by
    show(if no<x.1 then(0:Int) else idxGt no r (0+1))=_
    rw[if_neg hx]
   rw[h0,zrd no r 0 1 (by omega) (by omega)]
   rcases z5i no r 0 (Int.le_refl _) with⟨h1,_⟩|h1
   ·rw[h1,if_pos (by omega)];rfl
   ·rw[if_neg (by omega),zF (by omega:¬idxGt no r 0+1<0),zF (by omega:¬idxGt no r 0<0),zD,zD]
    have:(idxGt no r 0+1).toNat=(idxGt no r 0).toNat+1:=by omega
    rw[this];rfl
theorem ztn(no:Int)(t:ByteArray)(v:Val):∀l:List Val,v∈insR no t l↔v=(no,t,())∨v∈l
 | []=>by simp [insR]
 |x::r=>by
  unfold insR
  split
  ·simp
  ·rw[List.mem_cons,ztn no t v r,List.mem_cons]
   constructor
   ·rintro(h|h|h)
    ·exact .inr (.inl h)
    ·exact .inl h
    ·exact .inr (.inr h)
   ·rintro(h|h|h)
    ·exact .inr (.inl h)
    ·exact .inl h
    ·exact .inr (.inr h)
theorem z1bw(no:Int)(t:ByteArray):∀{l:List Val},Ris l→(∀x∈l,x.1≠no)→Ris (insR no t l)
 | [],_,_=>by simp [insR,Ris]
 |x::r,h,hn=>by
  have hx:=hn x List.mem_cons_self
  rw[Ris,List.pairwise_cons] at h
  unfold insR
  split
  ·rename_i hlt
   refine List.pairwise_cons.2 ⟨fun y hy=> ?_,List.pairwise_cons.2 h⟩
   rcases List.mem_cons.1 hy with rfl|hy
   ·exact hlt
   ·have:=h.1 y hy
    show no<y.1
    omega
  ·rename_i hlt
   refine List.pairwise_cons.2 ⟨fun y hy=> ?_,z1bw no t h.2 (fun z hz=>hn z (List.mem_cons_of_mem _ hz))⟩
   rcases(ztn no t y r).1 hy with rfl|hy
   ·show x.1<no
    omega
   ·exact h.1 y hy
theorem z163{l:List Val}{no:Int}{v:Val}:v∈dropV l no↔v∈l∧v.1≠no:=by
 unfold dropV
 rw[List.mem_filter]
 simp
theorem zb1(m:Msg)(no:Int)(t:ByteArray)(v:Val):v∈(withM m no t).2.1↔v=(no,t,())∨(v∈m.2.1∧v.1≠no):=by
 show v∈insV (dropV m.2.1 no) no t↔_
 rw[zqm,ztn,z163]
theorem zkm{m:Msg}(h:Ris m.2.1)(no:Int)(t:ByteArray):Ris (withM m no t).2.1:=by
 show Ris (insV (dropV m.2.1 no) no t)
 rw[zqm]
 exact z1bw no t (h.filter _) (fun x hx=>(z163.1 hx).2)
theorem z1fv:∀{l r:List Val},Ris l→Ris r→(∀v,v∈l↔v∈r)→l=r
 | [],[],_,_,_=>rfl
 | [],y::r,_,_,h=>by have:=(h y).2 List.mem_cons_self;cases this
 |x::l,[],_,_,h=>by have:=(h x).1 List.mem_cons_self;cases this
 |x::l,y::r,hl,hr,h=>by
  have hl':=List.pairwise_cons.1 hl
  have hr':=List.pairwise_cons.1 hr
  have e:x=y:=by
   rcases List.mem_cons.1 ((h x).1 List.mem_cons_self) with e|e
   ·exact e
   ·rcases List.mem_cons.1 ((h y).2 List.mem_cons_self) with e2|e2
    ·exact e2.symm
    ·have a1:=hr'.1 x e
     have a2:=hl'.1 y e2
     omega
  subst e
  congr 1
  refine z1fv hl'.2 hr'.2 fun v=>⟨fun hv=> ?_,fun hv=> ?_⟩
  ·rcases List.mem_cons.1 ((h v).1 (List.mem_cons_of_mem _ hv)) with e|e
   ·subst e;have:=hl'.1 _ hv;omega
   ·exact e
  ·rcases List.mem_cons.1 ((h v).2 (List.mem_cons_of_mem _ hv)) with e|e
   ·subst e;have:=hr'.1 _ hv;omega
   ·exact e
def z45:List Val→Msg→Msg
 | [],out=>out
 |v::l,out=>z45 l (withM out v.1 v.2.1)
def Apart(l:List Val):Prop:=l.Pairwise fun x y=>x.1≠y.1
theorem zri:∀(l:List Val) (out:Msg),(z45 l out).1=out.1
 | [],out=>rfl
 |v::l,out=>zri l _
theorem zyw:∀(l:List Val) {out:Msg},Ris out.2.1→Ris (z45 l out).2.1
 | [],out,h=>h
 |v::l,out,h=>zyw l (zkm h v.1 v.2.1)
theorem zyv:∀(l:List Val) (out:Msg),Apart l→(∀v∈l,∀w∈out.2.1,v.1≠w.1)→∀v,v∈(z45 l out).2.1↔v∈out.2.1∨v∈l
 | [],out,_,_,v=>by simp [z45]
 |x::l,out,ha,hd,v=>by
  have ha':=List.pairwise_cons.1 ha
  have hx:(x.1,x.2.1,())=x:=rfl
  rw[z45,zyv l _ ha'.2 (fun y hy w hw=> ?_) v,zb1,hx,List.mem_cons]
  ·constructor
   ·rintro((h|h)|h)
    ·exact .inr (.inl h)
    ·exact .inl h.1
    ·exact .inr (.inr h)
   ·rintro(h|h|h)
    ·exact .inl (.inr ⟨h,fun e=>hd x List.mem_cons_self v h e.symm⟩)
    ·exact .inl (.inl h)
    ·exact .inr h
  ·rcases(zb1 out x.1 x.2.1 w).1 hw with e|e
   ·rw[e];exact fun h=>ha'.1 y hy h.symm
   ·exact hd y (List.mem_cons_of_mem _ hy) w e.1
theorem zf2:∀(l r:List Val) (out:Msg),z45 (l++r) out=z45 r (z45 l out)
 | [],r,out=>rfl
 |v::l,r,out=>zf2 l r _
def z1b(l:List Rule):List Val:=(l.filter fun r=>decide (r.1=3)).map fun r=>(r.2.2.1,r.2.2.2.1,())
theorem zb8:∀(l:List Rule) (out:Msg),z2v l out=z45 (z1b l) out
 | [],out=>rfl
 |r::l,out=>by
  rw[z2v]
  unfold z1b
  rw[List.filter_cons]
  cases decide (r.1=3) with
  |true=>exact zb8 l _
  |false=>exact zb8 l _
def z17(m:Map)(b:zf):List Val→Sum Fault (List Val)
 | []=> .inr []
 |v::r=>match findR m v.1 with
  |none=> .inl (9,v.1,())
  |some q=>bif !decide ((zy q b v.2.1).2=0) then .inl ((zy q b v.2.1).2,v.1,()) else match z17 m b r with
   | .inl f=> .inl f
   | .inr ys=> .inr ((zy q b v.2.1).1::ys)
def some0(l:List Val):List Val:=l.filter fun v=> !decide (v.1=0)
theorem zbb(m:Map)(b:zf):∀(l:List Val) (out:Msg),(∃f o,z62 m b l out= .inl (f,o)∧z17 m b l= .inl f)∨(∃ys,z62 m b l out= .inr (z45 (some0 ys) out)∧z17 m b l= .inr ys)
 | [],out=> .inr ⟨[],rfl,rfl⟩
 |v::r,out=>by
  rw[z62,z17]
  cases findR m v.1 with
  |none=>exact .inl ⟨_,_,rfl,rfl⟩
  |some q=>
   dsimp only
   generalize zy q b v.2.1=y
   cases decide (y.2=0) with
   |false=>exact .inl ⟨_,_,rfl,rfl⟩
   |true=>
    rw[Bool.not_true,zD,zD]
    cases hz:decide (y.1.1=0) with
    |true=>
     rw[Bool.not_true,zD]
     rcases zbb m b r out with⟨f,o,h1,h2⟩|⟨ys,h1,h2⟩
     ·exact .inl ⟨f,o,h1,by rw[h2]⟩
     ·refine .inr ⟨y.1::ys,?_,by rw[h2]⟩
      rw[h1]
      have:some0 (y.1::ys)=some0 ys:=by unfold some0;rw[List.filter_cons,hz];rfl
      rw[this]
    |false=>
     rw[Bool.not_false,zC]
     rcases zbb m b r (withM out y.1.1 y.1.2.1) with⟨f,o,h1,h2⟩|⟨ys,h1,h2⟩
     ·exact .inl ⟨f,o,h1,by rw[h2]⟩
     ·refine .inr ⟨y.1::ys,?_,by rw[h2]⟩
      rw[h1]
      have:some0 (y.1::ys)=y.1::some0 ys:=by unfold some0;rw[List.filter_cons,hz];rfl
      rw[this]
      rfl
theorem z5h{m:Map}{b:zf}:∀{l ys:List Val},z17 m b l= .inr ys→∀y∈ys,∃v∈l,∃q,findR m v.1=some q∧(zy q b v.2.1).2=0∧y=(zy q b v.2.1).1
 | [],ys,h,y,hy=>by cases h;cases hy
 |v::r,ys,h,y,hy=>by
  rw[z17] at h
  cases hf:findR m v.1 with
  |none=>rw[hf] at h;cases h
  |some q=>
   rw[hf] at h
   dsimp only at h
   cases hz:decide ((zy q b v.2.1).2=0) with
   |false=>rw[hz] at h;cases h
   |true=>
    rw[hz,Bool.not_true,zD] at h
    cases hr:z17 m b r with
    |inl f=>rw[hr] at h;cases h
    |inr zs=>
     rw[hr] at h
     cases h
     rcases List.mem_cons.1 hy with rfl|hy
     ·exact⟨v,List.mem_cons_self,q,hf,of_decide_eq_true hz,rfl⟩
     ·obtain⟨w,hw,q',g⟩:=z5h hr y hy
      exact⟨w,List.mem_cons_of_mem _ hw,q',g⟩
theorem z1hq(x y:Rule):z1t x y=z1t y x:=by
 unfold z1t
 have e1:(!decide (x.2.1=0)&&decide (x.2.1=y.2.1))=(!decide (y.2.1=0)&&decide (y.2.1=x.2.1)):=by
  by_cases h:x.2.1=y.2.1
  ·rw[h]
  ·rw[zF h,zF (show¬y.2.1=x.2.1 from fun e=>h e.symm),Bool.and_false,Bool.and_false]
 have e2:(!decide (x.2.2.1=0)&&decide (x.2.2.1=y.2.2.1))=(!decide (y.2.2.1=0)&&decide (y.2.2.1=x.2.2.1)):=by
  by_cases h:x.2.2.1=y.2.2.1
  ·rw[h]
  ·rw[zF h,zF (show¬y.2.2.1=x.2.2.1 from fun e=>h e.symm),Bool.and_false,Bool.and_false]
 rw[e1,e2]
theorem zk3:∀{l prev:List Rule},z8m prev l→l.Pairwise (fun x y=>z1t x y=false)∧∀p∈prev,∀x∈l,z1t p x=false
 | [],prev,h=>⟨List.Pairwise.nil,fun _ _ x hx=>by cases hx⟩
 |r::l,prev,h=>by
  obtain⟨h1,h2⟩:=h
  obtain⟨i1,i2⟩:=zk3 h2
  have hp:∀p∈prev,z1t p r=false:=fun p hp=>by
   have:=List.any_eq_false.1 h1 p hp
   simpa using this
  refine⟨List.pairwise_cons.2 ⟨fun y hy=>i2 r (by simp) y hy,i1⟩,fun p hp' x hx=> ?_⟩
  rcases List.mem_cons.1 hx with rfl|hx
  ·exact hp p hp'
  ·exact i2 p (by simp [hp']) x hx
theorem zkk{x y:Rule}(h:z1t x y=false)(hx:x.2.2.1≠0):x.2.2.1≠y.2.2.1:=by
 intro e
 unfold z1t at h
 rw[Bool.or_eq_false_iff] at h
 have:=h.2
 rw[zF hx,zT e] at this
 cases this
theorem z1cf{l:List Rule}(h:l.Pairwise fun x y=>z1t x y=false):∀x∈l,∀y∈l,x≠y→z1t x y=false:=by
 induction l with
 |nil=>intro x hx;cases hx
 |cons r l ih=>
  obtain⟨h1,h2⟩:=List.pairwise_cons.1 h
  intro x hx y hy hne
  rcases List.mem_cons.1 hx with e1|hx1
  ·rcases List.mem_cons.1 hy with e2|hy1
   ·exact absurd (e1.trans e2.symm) hne
   ·rw[e1];exact h1 y hy1
  ·rcases List.mem_cons.1 hy with e2|hy1
   ·rw[z1hq,e2];exact h1 x hx1
   ·exact ih h2 x hx1 y hy1 hne
end Groat

namespace Groat
open Go.IntKind renaming wrap→zW,i64→zI,u8→zU
open Go Go.Ref
theorem z2g{s:zf}:∀{l:List Val} {last:Int},z2i s l last=none↔(∀v∈l,hasS s v.1=true∧valC (getS s v.1) v.2.1=0)∧Ris l∧∀v∈l,last<v.1
 | [],last=>by simp [z2i,Ris]
 |x::r,last=>by
  rw[z2i]
  by_cases h1:x.1≤last
  ·rw[zT h1,zC]
   refine⟨fun h=>(by cases h),fun h=> ?_⟩
   have:=h.2.2 x List.mem_cons_self
   omega
  rw[zF h1,zD]
  cases h2:hasS s x.1 with
  |false=>
   refine⟨fun h=>(by cases h),fun h=> ?_⟩
   have:=(h.1 x List.mem_cons_self).1
   rw[h2] at this;cases this
  |true=>
   rw[Bool.not_true,zD]
   by_cases h3:valC (getS s x.1) x.2.1=0
   ·rw[zT h3,Bool.not_true,zD,z2g]
    constructor
    ·rintro⟨g1,g2,g3⟩
     refine⟨fun v hv=> ?_,List.pairwise_cons.2 ⟨g3,g2⟩,fun v hv=> ?_⟩
     ·rcases List.mem_cons.1 hv with rfl|hv
      ·exact⟨h2,h3⟩
      ·exact g1 v hv
     ·rcases List.mem_cons.1 hv with rfl|hv
      ·omega
      ·have:=g3 v hv;omega
    ·rintro⟨g1,g2,g3⟩
     have g2:=List.pairwise_cons.1 g2
     exact⟨fun v hv=>g1 v (List.mem_cons_of_mem _ hv),g2.2,g2.1⟩
   ·rw[zF h3,Bool.not_false,zC]
    refine⟨fun h=>(by cases h),fun h=> ?_⟩
    exact absurd (h.1 x List.mem_cons_self).2 h3
theorem zjo{s:zf}:∀{l:List Val} {last:Int} {f:Fault},z2i s l last=some f→f.1≠0
 | [],last,f,h=>by cases h
 |x::r,last,f,h=>by
  rw[z2i] at h
  cases h1:decide (x.1≤last) with
  |true=>rw[h1] at h;cases h;exact(by decide:(11:Int)≠0)
  |false=>
   rw[h1,zD] at h
   cases h2:hasS s x.1 with
   |false=>rw[h2] at h;cases h;exact(by decide:(9:Int)≠0)
   |true=>
    rw[h2,Bool.not_true,zD] at h
    by_cases h3:valC (getS s x.1) x.2.1=0
    ·rw[zT h3,Bool.not_true,zD] at h
     exact zjo h
    ·rw[zF h3,Bool.not_false,zC] at h
     cases h
     exact h3
structure Msg0(s:zf)(m:Msg):Prop where
 sch:(z14 s).1=0
 right:zz m.1=true
 ver:verM m.1=s.2.1
 flds:z2i s m.2.1 0=none
theorem zah{s:zf}{m:Msg}:(msgC s m).1=0↔Msg0 s m:=by
 unfold msgC
 by_cases h1:(z14 s).1=0
 ·rw[zT h1,Bool.not_true,zD]
  cases h2:zz m.1 with
  |false=>exact⟨fun h=>absurd h (show¬(7:Int)=0 by decide),fun h=>by have:=h.right;rw[h2] at this;cases this⟩
  |true=>
   rw[Bool.not_true,zD]
   by_cases h3:verM m.1=s.2.1
   ·rw[zT h3,Bool.not_true,zD]
    cases h4:z2i s m.2.1 0 with
    |none=>exact⟨fun _=>⟨h1,h2,h3,h4⟩,fun _=>rfl⟩
    |some f=>exact⟨fun h=>absurd h (zjo h4),fun h=>by have:=h.flds;rw[h4] at this;cases this⟩
   ·rw[zF h3]
    exact⟨fun h=>absurd h (show¬(7:Int)=0 by decide),fun h=>absurd h.ver h3⟩
 ·rw[zF h1]
  exact⟨fun h=>absurd h (show¬(1:Int)=0 by decide),fun h=>absurd h.sch h1⟩
theorem Msg0.eq{s:zf}{m:Msg}(h:Msg0 s m):msgC s m=zu:=by
 unfold msgC
 rw[zT h.sch,h.right,zT h.ver,h.flds];rfl
theorem z40{s:zf}(h:Okay s){no:Int}(hh:hasS s no=true):2≤no∧no≤128:=by
 have:=(zrm (zay h hh)).1
 rw[(zem hh).2] at this
 exact this
theorem z7y{q:Rule}{b:zf}{t:ByteArray}(h:(zy q b t).2=0)(hz:(zy q b t).1.1≠0):q.1≠2∧(zy q b t).1.1=q.2.2.1:=by
 unfold zy at h hz⊢
 by_cases k1:q.1=1
 ·rw[zT k1,zC];exact⟨by omega,rfl⟩
 rw[zF k1,zD] at h hz⊢
 by_cases k2:q.1=2
 ·rw[zT k2,zC] at hz;exact absurd rfl hz
 rw[zF k2,zD] at h hz⊢
 refine⟨k2,?_⟩
 by_cases k3:q.1=3
 ·rw[zT k3,zC]
 rw[zF k3,zD] at h hz⊢
 by_cases k4:q.1=4
 ·rw[zT k4,zC] at h hz⊢
  cases hs:hasS b q.2.2.1 with
  |false=>rw[hs] at h;cases h
  |true=>
   rw[hs] at h
   rw[Bool.not_true,zD] at h⊢
   cases hp:(padD t (getS b q.2.2.1).2.2.2.1).2 with
   |false=>rw[hp] at h;cases h
   |true=>rfl
 rw[zF k4,zD] at h hz⊢
 by_cases k5:q.1=5
 ·rw[zT k5,zC] at h hz⊢
  cases hp:(zp q.2.2.2.2.1 t).2 with
  |false=>rw[hp] at h;cases h
  |true=>rfl
 ·rw[zF k5,zD] at hz;exact absurd rfl hz
theorem z66{l:List Val}{v:Val}:v∈some0 l↔v∈l∧v.1≠0:=by
 unfold some0
 rw[List.mem_filter]
 simp
section
variable {m:Map} {a b:zf}
theorem Map0.pairs(h:Map0 m a b):m.2.1.Pairwise fun x y=>z1t x y=false:=(zk3 h.twice).1
theorem Map0.okA(h:Map0 m a b):Okay a:=(z2p a).1 h.sa
theorem Map0.okB(h:Map0 m a b):Okay b:=(z2p b).1 h.sb
theorem Map0.to(h:Map0 m a b){r:Rule}(hr:r∈m.2.1)(k:r.1≠2):hasS b r.2.2.1=true:=(zjl (z8j (h.rules r hr)).2.1).2.2.2 k
theorem Map0.to0(h:Map0 m a b){r:Rule}(hr:r∈m.2.1)(k:r.1≠2):r.2.2.1≠0:=by
 have:=z40 h.okB (h.to hr k)
 omega
theorem z1d4(h:Map0 m a b):∀{l ys:List Val},Ris l→z17 m b l= .inr ys→Apart (some0 ys)
 | [],ys,_,hy=>by cases hy;exact List.Pairwise.nil
 |v::r,ys,hr,hy=>by
  rw[z17] at hy
  have hr:=List.pairwise_cons.1 hr
  cases hf:findR m v.1 with
  |none=>rw[hf] at hy;cases hy
  |some q=>
   rw[hf] at hy
   dsimp only at hy
   cases hz:decide ((zy q b v.2.1).2=0) with
   |false=>rw[hz] at hy;cases hy
   |true=>
    rw[hz,Bool.not_true,zD] at hy
    cases hv:z17 m b r with
    |inl f=>rw[hv] at hy;cases hy
    |inr zs=>
     rw[hv] at hy
     cases hy
     have ih:=z1d4 h hr.2 hv
     unfold some0 at ih⊢
     rw[List.filter_cons]
     split
     ·rename_i hnz
      have hnz:(zy q b v.2.1).1.1≠0:=by simpa using hnz
      refine List.pairwise_cons.2 ⟨fun z hzm=> ?_,ih⟩
      obtain⟨z1,z2⟩:=z66.1 hzm
      obtain⟨w,hw,q',hf',h0',rfl⟩:=z5h hv z z1
      obtain⟨a1,a2⟩:=z7y (of_decide_eq_true hz) hnz
      obtain⟨b1,b2⟩:=z7y h0' z2
      rw[a2,b2]
      obtain⟨qm,qf⟩:=z63 hf
      obtain⟨qm',qf'⟩:=z63 hf'
      have hlt:=hr.1 w hw
      have hne:q≠q':=fun e=>by subst e;omega
      exact zkk (z1cf h.pairs q qm q' qm' hne) (h.to0 qm a1)
     ·exact ih
theorem z8f{l:List Rule}{v:Val}:v∈z1b l↔∃r∈l,r.1=3∧v=(r.2.2.1,r.2.2.2.1,()):=by
 unfold z1b
 rw[List.mem_map]
 constructor
 ·rintro⟨r,hr,rfl⟩
  rw[List.mem_filter] at hr
  exact⟨r,hr.1,of_decide_eq_true hr.2,rfl⟩
 ·rintro⟨r,hr,k,rfl⟩
  exact⟨r,List.mem_filter.2 ⟨hr,zT k⟩,rfl⟩
theorem z1b0(h:Map0 m a b):Apart (z1b m.2.1):=by
 unfold z1b
 refine List.pairwise_map.2 ?_
 refine List.Pairwise.imp_of_mem ?_ (h.pairs.filter _)
 intro x y hx hy hxy
 have hx:=List.mem_filter.1 hx
 have k:x.1=3:=of_decide_eq_true hx.2
 exact zkk hxy (h.to0 hx.1 (by omega))
theorem z1di(h:Map0 m a b){l ys:List Val}(hl:∀v∈l,hasS a v.1=true)(hy:z17 m b l= .inr ys):∀c∈z1b m.2.1,∀y∈some0 ys,c.1≠y.1:=by
 intro c hc y hym
 obtain⟨r,hr,k,rfl⟩:=z8f.1 hc
 obtain⟨y1,y2⟩:=z66.1 hym
 obtain⟨w,hw,q,hf,h0,rfl⟩:=z5h hy y y1
 obtain⟨b1,b2⟩:=z7y h0 y2
 rw[b2]
 obtain⟨qm,qf⟩:=z63 hf
 have hwr:=z40 h.okA (hl w hw)
 have hz:=(zjl (z8j (h.rules r hr)).2.1).1 k
 have hne:r≠q:=fun e=>by subst e;omega
 exact zkk (z1cf h.pairs r hr q qm hne) (h.to0 hr (by omega))
theorem z15c(h:Map0 m a b){l ys:List Val}(hr:Ris l)(hl:∀v∈l,hasS a v.1=true)(hy:z17 m b l= .inr ys):Apart (z1b m.2.1++some0 ys):=
 List.pairwise_append.2 ⟨z1b0 h,z1d4 h hr hy,z1di h hl hy⟩
theorem z15d(h:Map0 m a b){l ys:List Val}(hy:z17 m b l= .inr ys):∀v∈z1b m.2.1++some0 ys,hasS b v.1=true:=by
 intro v hv
 rcases List.mem_append.1 hv with hv|hv
 ·obtain⟨r,hr,k,rfl⟩:=z8f.1 hv
  exact h.to hr (by omega)
 ·obtain⟨y1,y2⟩:=z66.1 hv
  obtain⟨w,hw,q,hf,h0,rfl⟩:=z5h hy v y1
  obtain⟨b1,b2⟩:=z7y h0 y2
  rw[b2]
  exact h.to (z63 hf).1 b1
end
def z28(vs:List Val):Nat→Nat→List Val
 |0,_=>[]
 |n+1,k=>(vs.filter fun v=>decide (v.1=(k:Int)))++z28 vs n (k+1)
theorem z8d{vs:List Val}{v:Val}:∀{n k:Nat},v∈z28 vs n k↔v∈vs∧(k:Int)≤v.1∧v.1<((k+n:Nat):Int)
 |0,k=>by simp only[z28,List.not_mem_nil,false_iff];omega
 |n+1,k=>by
  rw[z28,List.mem_append,List.mem_filter,decide_eq_true_eq,z8d]
  constructor
  ·rintro(⟨h1,h2⟩|⟨h1,h2,h3⟩)
   ·exact⟨h1,by omega,by omega⟩
   ·exact⟨h1,by omega,by omega⟩
  ·rintro⟨h1,h2,h3⟩
   by_cases e:v.1=(k:Int)
   ·exact .inl ⟨h1,e⟩
   ·exact .inr ⟨h1,by omega,by omega⟩
theorem zeb{vs:List Val}(h:Apart (some0 vs)):∀(n k:Nat),1≤k→Ris (z28 vs n k)
 |0,k,_=>List.Pairwise.nil
 |n+1,k,hk=>by
  rw[z28]
  refine List.pairwise_append.2 ⟨?_,zeb h n (k+1) (by omega),fun x hx y hy=> ?_⟩
  ·have e:(vs.filter fun v=>decide (v.1=(k:Int)))=(some0 vs).filter fun v=>decide (v.1=(k:Int)):=by
    unfold some0
    rw[List.filter_filter]
    congr 1
    funext v
    by_cases hv:v.1=(k:Int)
    ·rw[zT hv,zF (by omega:¬v.1=0)];rfl
    ·rw[zF hv];rfl
   rw[e]
   refine List.Pairwise.imp_of_mem ?_ (h.filter _)
   intro x y hx hy hne
   have h1:=of_decide_eq_true (List.mem_filter.1 hx).2
   have h2:=of_decide_eq_true (List.mem_filter.1 hy).2
   omega
  ·have h1:=of_decide_eq_true (List.mem_filter.1 hx).2
   have h2:=(z8d.1 hy).2.1
   omega
def zdn(m:Map)(a b:zf)(x:Msg):Msg×Fault:=
 bif !decide ((mapC m a b).1=0) then(msg0,(1,-1,())) else bif !decide ((msgC a x).1=0) then(msg0,msgC a x) else bif !(zp m.1 x.1).2 then(msg0,(7,0,()))
 else match z17 m b x.2.1 with
  | .inl f=>(msg0,f)
  | .inr ys=>(((zp m.1 x.1).1,z28 (ys++z1b m.2.1) 127 2,()),zu)
theorem zkf(l r:List Val):some0 (l++r)=some0 l++some0 r:=by unfold some0;rw[List.filter_append]
theorem zkg{m:Map}{a b:zf}(h:Map0 m a b):some0 (z1b m.2.1)=z1b m.2.1:=by
 unfold some0
 refine List.filter_eq_self.2 fun v hv=> ?_
 obtain⟨r,hr,k,rfl⟩:=z8f.1 hv
 have:=h.to0 hr (by omega)
 simpa using this
theorem zxr{l r:List Val}(h:Apart (l++r)):Apart (r++l):=by
 obtain⟨h1,h2,h3⟩:=List.pairwise_append.1 h
 exact List.pairwise_append.2 ⟨h2,h1,fun x hx y hy e=>h3 y hy x hx e.symm⟩
theorem z1me{m:Map}{a b:zf}(h:Map0 m a b){l ys:List Val}(hr:Ris l)(hl:∀v∈l,hasS a v.1=true)(hy:z17 m b l= .inr ys)(t:ByteArray):
 z45 (some0 ys) (z2v m.2.1 (t,[],()))=(t,z28 (ys++z1b m.2.1) 127 2,()):=by
 rw[zb8,←zf2]
 have hap:=z15c h hr hl hy
 have hs:some0 (ys++z1b m.2.1)=some0 ys++z1b m.2.1:=by rw[zkf,zkg h]
 refine z1yx.2 ⟨zri _ _,?_⟩
 refine z1fv (zyw _ List.Pairwise.nil) (zeb (by rw[hs];exact zxr hap) 127 2 (by omega)) fun v=> ?_
 rw[zyv _ _ hap (fun _ _ w hw=>by cases hw) v,z8d]
 constructor
 ·rintro(hv|hv)
  ·cases hv
  ·have hb:=z40 h.okB (z15d h hy v hv)
   refine⟨?_,by omega,by omega⟩
   rcases List.mem_append.1 hv with hv|hv
   ·exact List.mem_append_right _ hv
   ·exact List.mem_append_left _ (z66.1 hv).1
 ·rintro⟨hv,h1,h2⟩
  right
  rcases List.mem_append.1 hv with hv|hv
  ·exact List.mem_append_right _ (z66.2 ⟨hv,by omega⟩)
  ·exact List.mem_append_left _ hv
theorem zey(m:Map)(a b:zf)(x:Msg):z33 m a b x=zdn m a b x:=by
 unfold z33 zdn
 by_cases h1:(mapC m a b).1=0
 ·rw[zT h1,Bool.not_true,zD,zD]
  by_cases h2:(msgC a x).1=0
  ·rw[zT h2,Bool.not_true,zD,zD]
   cases(zp m.1 x.1).2 with
   |false=>rfl
   |true=>
    rw[Bool.not_true,zD,zD]
    obtain⟨g1,g2,g3⟩:=z2g.1 (zah.1 h2).flds
    rcases zbb m b x.2.1 (z2v m.2.1 ((zp m.1 x.1).1,[],())) with⟨f,o,e1,e2⟩|⟨ys,e1,e2⟩
    ·rw[e1,e2]
    ·rw[e1,e2]
     dsimp only
     rw[z1me (ztp.1 h1) g2 (fun v hv=>(g1 v hv).1) e2]
  ·rw[zF h2];rfl
 ·rw[zF h1];rfl
end Groat

namespace Groat
open Go.IntKind renaming wrap→zW,i64→zI,u8→zU
open Go Go.Ref
abbrev tSpec:Ty:= .pair (.int .i64) (.pair (.int .i64) (.pair (.int .i64) (.pair (.int .i64) (.pair (.int .i64) .unit))))
abbrev z1z8:Ty:= .pair (.int .i64) (.pair (.int .i64) (.pair (.sl 0 tSpec) .unit))
end Groat

namespace Groat
open Go.IntKind renaming wrap→zW,i64→zI,u8→zU
open Go Go.Ref
abbrev tPair:Ty:= .pair .str (.pair .str .unit)
abbrev tRule:Ty:= .pair (.int .i64) (.pair (.int .i64) (.pair (.int .i64) (.pair .str (.pair (.sl 0 tPair) .unit))))
abbrev tMap:Ty:= .pair (.sl 0 tPair) (.pair (.sl 0 tRule) .unit)
def small(n:Nat)(l:List Pair):Bool:=l.all fun p=> !decide ((n:Int)<(p.1.size:Int))&& !decide ((n:Int)<(p.2.1.size:Int))
theorem z1cn{n:Nat}{l:List Pair}(hn:n≤1200)(h:small n l=true):∀p∈l,p.1.size≤1099511627776∧p.2.1.size≤1099511627776:=fun p hp=>by
 have:=List.all_eq_true.1 h p hp
 simp only[Bool.and_eq_true,Bool.not_eq_true',decide_eq_false_iff_not] at this
 omega
def grR(t:Bool):Option (Sum Bool Unit):=some (bif t then .inr () else .inl true)
theorem z1n9:∀(l:List Pair) (i:Int),runI (fun i (p:Pair) (s:Unit) K=>bif(decide (1200<((p.1).size:Int))) then some (Sum.inl true) else(bif(decide (1200<((p.2.1).size:Int))) then some (Sum.inl true) else K s)) (fun _=>some (Sum.inr ())) l i ()=grR (small 1200 l)
 | [],i=>rfl
 |p::r,i=>by
  simp only[runI,small,List.all_cons]
  by_cases h1:(1200:Int)<(p.1.size:Int)
  ·rw[zT h1,zT (show((1200:Nat):Int)<(p.1.size:Int) from h1)];rfl
  ·rw[zF h1,zF (show¬((1200:Nat):Int)<(p.1.size:Int) from h1)]
   by_cases h2:(1200:Int)<(p.2.1.size:Int)
   ·rw[zT h2,zT (show((1200:Nat):Int)<(p.2.1.size:Int) from h2)];rfl
   ·rw[zF h2,zF (show¬((1200:Nat):Int)<(p.2.1.size:Int) from h2)]
    exact z1n9 r (i+1)
def z6g(r:Rule):Bool:=decide ((1200:Int)<(r.2.2.2.1.size:Int))||(decide ((300:Int)<(r.2.2.2.2.1.length:Int))|| !small 1200 r.2.2.2.2.1)
theorem z1ge(r:Rule)(h:r.2.2.2.2.1.length≤maxLen):Q134 r=some (z6g r):=by
 unfold Q134 zm4 z6g
 cases decide ((1200:Int)<(r.2.2.2.1.size:Int)) with
 |true=>rfl
 |false=>
  cases decide ((300:Int)<(r.2.2.2.2.1.length:Int)) with
  |true=>rfl
  |false=>
   simp only[zD,Bool.false_or]
   have:=loopJ pair0 r.2.2.2.2.1 h (fun i (p:Pair) (s:Unit) K=>bif(decide (1200<((p.1).size:Int))) then some (Sum.inl true) else(bif(decide (1200<((p.2.1).size:Int))) then some (Sum.inl true) else K s)) (fun _=>some (Sum.inr ()))
    (fun k i s=>z4x k i r) (fun k i s h0 h1=>by
      show z4x (k+1) i r=_
      conv=>lhs;unfold z4x zbt
      rw[zT h1,zC,zl h0 h1,zl h0 h1]
      rfl) (fun k s=>by
      show z4x (k+1) r.2.2.2.2.1.length r=_
      conv=>lhs;unfold z4x zbt
      rw[zF (by omega),zD]) ()
   rw[this,z1n9]
   unfold grR
   cases small 1200 r.2.2.2.2.1<;>rfl
theorem z1na{r:Rule}(h:z6g r=false):RuleOk r:=by
 unfold z6g at h
 simp only[Bool.or_eq_false_iff,decide_eq_false_iff_not,Bool.not_eq_false'] at h
 obtain⟨h1,h2,h3⟩:=h
 exact⟨by omega,by omega,z1cn (by omega) h3⟩
theorem z1n8(m:Map):∀(l:List Pair) (i:Int),runI (fun i (p:Pair) (s:Unit) K=>bif(decide (100<((p.1).size:Int))) then some (Sum.inl (true,m)) else(bif(decide (100<((p.2.1).size:Int))) then some (Sum.inl (true,m)) else K s)) (fun _=>some (Sum.inr m)) l i ()=some (bif small 100 l then .inr m else .inl (true,m))
 | [],i=>rfl
 |p::r,i=>by
  simp only[runI,small,List.all_cons]
  by_cases h1:(100:Int)<(p.1.size:Int)
  ·rw[zT h1,zT (show((100:Nat):Int)<(p.1.size:Int) from h1)];rfl
  ·rw[zF h1,zF (show¬((100:Nat):Int)<(p.1.size:Int) from h1)]
   by_cases h2:(100:Int)<(p.2.1.size:Int)
   ·rw[zT h2,zT (show((100:Nat):Int)<(p.2.1.size:Int) from h2)];rfl
   ·rw[zF h2,zF (show¬((100:Nat):Int)<(p.2.1.size:Int) from h2)]
    exact z1n8 m r (i+1)
theorem z1n7:∀(l:List Rule) (i:Int),(∀r∈l,r.2.2.2.2.1.length≤maxLen)→runI (fun i (x:Rule) (s:Unit) K=>((Q134 x).bind fun r1=>(bif r1 then some (Sum.inl true) else K s))) (fun _=>some (Sum.inr ())) l i ()=some (bif l.any z6g then Sum.inl true else Sum.inr ())
 | [],i,_=>rfl
 |r::l,i,h=>by
  simp only[runI,List.any_cons]
  rw[z1ge r (h r List.mem_cons_self),Option.bind_some]
  cases z6g r with
  |true=>rfl
  |false=>exact z1n7 l (i+1) fun q hq=>h q (List.mem_cons_of_mem _ hq)
def z81(m:Map):Bool:=decide ((300:Int)<(m.1.length:Int))||(decide ((300:Int)<(m.2.1.length:Int))||(!small 100 m.1||m.2.1.any z6g))
theorem z1gf(m:Map)(h1:m.1.length≤maxLen)(h2:m.2.1.length≤maxLen)(h3:∀r∈m.2.1,r.2.2.2.2.1.length≤maxLen):Q137 m=some (z81 m):=by
 unfold Q137 zmf z81
 cases decide ((300:Int)<(m.1.length:Int)) with
 |true=>rfl
 |false=>
  cases decide ((300:Int)<(m.2.1.length:Int)) with
  |true=>rfl
  |false=>
   simp only[zD,Bool.false_or]
   have e1:=loopJ pair0 m.1 h1 (fun i (p:Pair) (s:Unit) K=>bif(decide (100<((p.1).size:Int))) then some (Sum.inl (true,m)) else(bif(decide (100<((p.2.1).size:Int))) then some (Sum.inl (true,m)) else K s)) (fun _=>some (Sum.inr m))
    (fun k i s=>z4y k i m) (fun k i s h0 h1=>by
      show z4y (k+1) i m=_
      conv=>lhs;unfold z4y zbz
      rw[zT h1,zC,zl h0 h1,zl h0 h1]
      rfl) (fun k s=>by
      show z4y (k+1) m.1.length m=_
      conv=>lhs;unfold z4y zbz
      rw[zF (by omega),zD]) ()
   rw[e1,z1n8]
   cases small 100 m.1 with
   |false=>rfl
   |true=>
    simp only[zC,Option.bind_some,Sum.elim_inr,Bool.not_true,Bool.false_or]
    unfold zmg
    have e2:=loopI rule0 m.2.1 h2 (fun i (x:Rule) (s:Unit) K=>((Q134 x).bind fun r1=>(bif r1 then some (Sum.inl true) else K s))) (fun _=>some (Sum.inr ()))
     (fun k i s=>zby k i m) (fun k i s=>rfl) ()
    dsimp only
    rw[e2,z1n7 _ _ h3]
    cases m.2.1.any z6g<;>rfl
theorem z16e{m:Map}(h:z81 m=false):MapOk m:=by
 unfold z81 at h
 simp only[Bool.or_eq_false_iff,decide_eq_false_iff_not,Bool.not_eq_false'] at h
 obtain⟨h1,h2,h3,h4⟩:=h
 refine⟨⟨by omega,z1cn (by omega) h3⟩,by omega,fun r hr=>z1na ?_⟩
 cases hg:z6g r with
 |false=>rfl
 |true=>rw[List.any_eq_true.2 ⟨r,hr,hg⟩] at h4;cases h4
theorem z1d2{m:Map}(h:Wf tMap m):Q137 m=some (z81 m):=
 z1gf m h.1.1 h.2.1.1 fun r hr=>(h.2.1.2 r hr).2.2.2.2.1.1
end Groat

namespace Groat
open Go.IntKind renaming wrap→zW,i64→zI,u8→zU
open Go Go.Ref
theorem z1df{r:Rule}{b:zf}{t:ByteArray}(ht:t.size≤1099511627776)(hr:RuleOk r):(zy r b t).1.2.1.size≤1099511627776:=by
 have h0:(bs []).size≤1099511627776:=by decide
 unfold zy
 cases decide (r.1=1) with
 |true=>exact ht
 |false=>
  rw[zD]
  cases decide (r.1=2) with
  |true=>exact h0
  |false=>
   rw[zD]
   cases decide (r.1=3) with
   |true=>exact hr.text
   |false=>
    rw[zD]
    cases decide (r.1=4) with
    |true=>
     rw[zC]
     cases hasS b r.2.2.1 with
     |false=>exact h0
     |true=>
      rw[Bool.not_true,zD]
      cases hp:(padD t (getS b r.2.2.1).2.2.2.1).2 with
      |false=>exact h0
      |true=>
       obtain⟨p1,p2,p3,p4⟩:=z1fs hp
       show(padD t (getS b r.2.2.1).2.2.2.1).1.size≤_
       omega
    |false=>
     rw[zD]
     cases decide (r.1=5) with
     |true=>
      rw[zC]
      cases hp:(zp r.2.2.2.2.1 t).2 with
      |false=>exact h0
      |true=>
       obtain⟨p,hm,_,hq⟩:=ze5 hp
       show(zp r.2.2.2.2.1 t).1.size≤_
       rw[hq]
       exact(hr.pairs.sz p hm).2
     |false=>exact h0
theorem zjp{m:Map}{b:zf}:∀{l:List Val} {f:Fault},z17 m b l= .inl f→f.1≠0
 | [],f,h=>by cases h
 |v::r,f,h=>by
  rw[z17] at h
  cases hf:findR m v.1 with
  |none=>rw[hf] at h;cases h;exact(by decide:(9:Int)≠0)
  |some q=>
   rw[hf] at h
   dsimp only at h
   by_cases hz:(zy q b v.2.1).2=0
   ·rw[zT hz,Bool.not_true,zD] at h
    cases hr:z17 m b r with
    |inl g=>rw[hr] at h;cases h;exact zjp hr
    |inr ys=>rw[hr] at h;cases h
   ·rw[zF hz,Bool.not_false,zC] at h
    cases h;exact hz
structure Done21(m:Map)(a b:zf)(x:Msg)(ys:List Val):Prop where
 map:Map0 m a b
 msg:Msg0 a x
 head:(zp m.1 x.1).2=true
 vals:z17 m b x.2.1= .inr ys
theorem z1dv(m:Map)(a b:zf)(x:Msg):(∃f,f.1≠0∧z33 m a b x=(msg0,f))∨∃ys,Done21 m a b x ys∧z33 m a b x=(((zp m.1 x.1).1,z28 (ys++z1b m.2.1) 127 2,()),zu):=by
 rw[zey]
 unfold zdn
 by_cases h1:(mapC m a b).1=0
 ·rw[zT h1,Bool.not_true,zD]
  by_cases h2:(msgC a x).1=0
  ·rw[zT h2,Bool.not_true,zD]
   cases h3:(zp m.1 x.1).2 with
   |false=>exact .inl ⟨_,by decide,rfl⟩
   |true=>
    rw[Bool.not_true,zD]
    cases h4:z17 m b x.2.1 with
    |inl f=>exact .inl ⟨f,zjp h4,rfl⟩
    |inr ys=>exact .inr ⟨ys,⟨ztp.1 h1,zah.1 h2,h3,h4⟩,rfl⟩
  ·rw[zF h2];exact .inl ⟨_,h2,rfl⟩
 ·rw[zF h1];exact .inl ⟨_,by decide,rfl⟩
theorem Done21.eq{m:Map}{a b:zf}{x:Msg}{ys:List Val}(h:Done21 m a b x ys):z33 m a b x=(((zp m.1 x.1).1,z28 (ys++z1b m.2.1) 127 2,()),zu):=by
 rw[zey]
 unfold zdn
 rw[zT (ztp.2 h.map),Bool.not_true,zD,zT (zah.2 h.msg),Bool.not_true,zD,h.head,h.vals]
 rfl
section
variable {m:Map} {a b:zf} {x:Msg} {ys:List Val}
theorem Done21.flds(h:Done21 m a b x ys):(∀v∈x.2.1,hasS a v.1=true∧valC (getS a v.1) v.2.1=0)∧Ris x.2.1∧∀v∈x.2.1,0<v.1:=z2g.1 h.msg.flds
theorem Done21.ris(h:Done21 m a b x ys):Ris (z28 (ys++z1b m.2.1) 127 2):=by
 obtain⟨g1,g2,g3⟩:=h.flds
 refine zeb ?_ 127 2 (by omega)
 rw[zkf,zkg h.map]
 exact zxr (z15c h.map g2 (fun v hv=>(g1 v hv).1) h.vals)
theorem Done21.mem(h:Done21 m a b x ys)(v:Val):v∈z28 (ys++z1b m.2.1) 127 2↔v∈z1b m.2.1∨(v∈ys∧v.1≠0):=by
 rw[z8d,List.mem_append]
 have hr:=z15d h.map h.vals
 constructor
 ·rintro⟨h1|h1,h2,h3⟩
  ·exact .inr ⟨h1,by omega⟩
  ·exact .inl h1
 ·rintro(h1|⟨h1,h2⟩)
  ·have:=z40 h.map.okB (hr v (List.mem_append_left _ h1))
   exact⟨.inr h1,by omega,by omega⟩
  ·have:=z40 h.map.okB (hr v (List.mem_append_right _ (z66.2 ⟨h1,h2⟩)))
   exact⟨.inl h1,by omega,by omega⟩
theorem Done21.valid(h:Done21 m a b x ys)(hm:MapOk m)(hx:MsgOk x):∀v∈z28 (ys++z1b m.2.1) 127 2,hasS b v.1=true∧v.2.1.size≤1099511627776∧valC (getS b v.1) v.2.1=0:=by
 intro v hv
 obtain⟨g1,g2,g3⟩:=h.flds
 rcases(h.mem v).1 hv with hv|⟨hv,hz⟩
 ·obtain⟨r,hr,k,rfl⟩:=z8f.1 hv
  have hc:=(z8j (h.map.rules r hr)).2.2.2
  unfold kindC at hc
  rw[zF (by omega:¬r.1=1),zT k,zD,zC] at hc
  exact⟨h.map.to hr (by omega),(hm.rules r hr).text,hc⟩
 ·obtain⟨w,hw,q,hf,h0,rfl⟩:=z5h h.vals v hv
  obtain⟨b1,b2⟩:=z7y h0 hz
  obtain⟨qm,qf⟩:=z63 hf
  have hwt:=hx.txt w hw
  have:=(z1dg (r:=q) (a:=a) (b:=b) hwt (hm.rules q qm) (h.map.rules q qm) h.map.okB (fun _=>by rw[qf];exact(g1 w hw).2)).2 h0
  obtain⟨e1,e2,e3⟩:=this.2 b1
  rw[b2]
  exact⟨e2,z1df hwt (hm.rules q qm),e3⟩
theorem z1ox{t:ByteArray}{v:Int}(h:versM t v=true):zz t=true∧verM t=v:=by
 unfold versM at h
 rw[Bool.and_eq_true,decide_eq_true_eq] at h
 refine⟨h.1,?_⟩
 unfold verM
 rw[h.1];exact h.2
theorem Done21.mti(h:Done21 m a b x ys):zz (zp m.1 x.1).1=true∧verM (zp m.1 x.1).1=b.2.1:=by
 obtain⟨p,hp,_,e⟩:=ze5 h.head
 have ht:=h.map.typed p hp
 unfold z2o at ht
 rw[Bool.and_eq_true,Bool.and_eq_true] at ht
 rw[e]
 exact z1ox ht.2.1
theorem Done21.out(h:Done21 m a b x ys)(hm:MapOk m)(hx:MsgOk x):Msg0 b ((zp m.1 x.1).1,z28 (ys++z1b m.2.1) 127 2,()):=by
 have hv:=h.valid hm hx
 refine⟨h.map.sb,h.mti.1,h.mti.2,z2g.2 ⟨fun v hm=>⟨(hv v hm).1,(hv v hm).2.2⟩,h.ris,fun v hm=> ?_⟩⟩
 have:=z40 h.map.okB (hv v hm).1
 omega
end
theorem z151:∀{l:List Val} {lo:Int},Ris l→(∀v∈l,lo<v.1∧v.1≤128)→(l.length:Int)≤max 0 (128-lo)
 | [],lo,_,_=>by simp;omega
 |x::r,lo,h,hr=>by
  have h:=List.pairwise_cons.1 h
  have hx:=hr x List.mem_cons_self
  have:=z151 (l:=r) (lo:=x.1) h.2 (fun v hv=>⟨h.1 v hv,(hr v (List.mem_cons_of_mem _ hv)).2⟩)
  simp only[List.length_cons]
  omega
theorem Done21.ok{m:Map}{a b:zf}{x:Msg}{ys:List Val}(h:Done21 m a b x ys)(hm:MapOk m)(hx:MsgOk x):MsgOk ((zp m.1 x.1).1,z28 (ys++z1b m.2.1) 127 2,()):=by
 have hv:=h.valid hm hx
 refine⟨?_,?_,fun v hv'=>(hv v hv').2.1⟩
 ·have:=(z1i.1 h.mti.1).1
  show(zp m.1 x.1).1.size≤_
  omega
 ·have:=z151 (lo:=0) h.ris (fun v hv'=>by have:=z40 h.map.okB (hv v hv').1;omega)
  show(z28 (ys++z1b m.2.1) 127 2).length≤_
  omega
def goodV(m:Map)(b:zf)(v:Val):Prop:=∃q,findR m v.1=some q∧(zy q b v.2.1).2=0
theorem z8g{m:Map}{b:zf}:∀{l:List Val},(∃ys,z17 m b l= .inr ys)↔∀v∈l,goodV m b v
 | []=>⟨fun _ v hv=>(by cases hv),fun _=>⟨[],rfl⟩⟩
 |v::r=>by
  rw[z17]
  constructor
  ·rintro⟨ys,h⟩ w hw
   cases hf:findR m v.1 with
   |none=>rw[hf] at h;cases h
   |some q=>
    rw[hf] at h
    dsimp only at h
    cases hz:decide ((zy q b v.2.1).2=0) with
    |false=>rw[hz] at h;cases h
    |true=>
     rw[hz,Bool.not_true,zD] at h
     rcases List.mem_cons.1 hw with rfl|hw
     ·exact⟨q,hf,of_decide_eq_true hz⟩
     ·cases hr:z17 m b r with
      |inl g=>rw[hr] at h;cases h
      |inr zs=>exact z8g.1 ⟨zs,hr⟩ w hw
  ·intro h
   obtain⟨q,hf,hz⟩:=h v List.mem_cons_self
   obtain⟨zs,hr⟩:=z8g.2 fun w hw=>h w (List.mem_cons_of_mem _ hw)
   rw[hf,hr]
   dsimp only
   rw[zT hz]
   exact⟨_,rfl⟩
theorem Done21.part{m:Map}{a b:zf}{x:Msg}{ys:List Val}(h:Done21 m a b x ys){l:List Val}(hl:List.Sublist l x.2.1):∃zs,Done21 m a b (x.1,l,()) zs:=by
 obtain⟨g1,g2,g3⟩:=h.flds
 obtain⟨zs,hz⟩:=z8g.2 fun v hv=>z8g.1 ⟨ys,h.vals⟩ v (hl.subset hv)
 exact⟨zs,h.map,⟨h.msg.sch,h.msg.right,h.msg.ver,z2g.2 ⟨fun v hv=>g1 v (hl.subset hv),g2.sublist hl,fun v hv=>g3 v (hl.subset hv)⟩⟩,h.head,hz⟩
end Groat

namespace Groat
open Go.IntKind renaming wrap→zW,i64→zI,u8→zU
open Go Go.Ref
def typC(style:Int)(m:ByteArray):ByteArray:=if style=1 then m else(z2m m).1
def encF(s:zf):List Val→ByteArray
 | []=>bs []
 |v::r=>(z34 s.1 (getS s v.1) v.2.1).1++encF s r
def nosM(m:Msg):List Int:=m.2.1.map fun v=>v.1
def encC(s:zf)(m:Msg):ByteArray:=typC s.1 m.1++(bmPut s.1 (setH (nosM m)) (setL (nosM m))).1++encF s m.2.1
theorem z1nn(m:Msg)(h:m.2.1.length≤1000000):Q185 m=some ((setH (nosM m):Int),(setL (nosM m):Int),()):=by
 unfold Q185 znu
 dsimp only
 have key:∀(l:List Val) (i:Int) (p:List Int),runI (fun i (x:Val) (b:FSet) K=>(Q40 b x.1).bind fun r1=>K r1) (fun b=>some (((0:Int),(0:Int),()),b)) l i ((setH p:Int),(setL p:Int),())=some (((0:Int),(0:Int),()),((setH (p++l.map fun v=>v.1):Int),(setL (p++l.map fun v=>v.1):Int),())):=by
  intro l
  induction l with
  |nil=>intro i p;rw[List.map_nil,List.append_nil];rfl
  |cons x r ih=>
   intro i p
   rw[runI,z1f6 _ _ (z26 p) (z2b p),zc]
   have e1:setH p|||bitH x.1=setH (p++ [x.1]):=by unfold setH;rw[List.foldl_append];rfl
   have e2:setL p|||bitL x.1=setL (p++ [x.1]):=by unfold setL;rw[List.foldl_append];rfl
   rw[e1,e2]
   dsimp only
   rw[ih (i+1) (p++ [x.1]),List.map_cons,List.append_assoc];rfl
 have:=loopI vnil m.2.1 (by rw[zj];omega) (fun i (x:Val) (b:FSet) K=>(Q40 b x.1).bind fun r1=>K r1) (fun b=>some (((0:Int),(0:Int),()),b)) (fun k i b=>zce k m.2.1 (m.2.1.length:Int) i ((0:Int),(0:Int),()) b) (fun k i b=>rfl) ((0:Int),(0:Int),())
 rw[this]
 have k2:=key m.2.1 0 []
 rw[show setH []=0 from rfl,show setL []=0 from rfl] at k2
 rw[show((0:Nat):Int)=0 from rfl] at k2
 rw[k2];rfl
theorem z1c8(m:Msg)(h:m.2.1.length≤1000000):Q119 m=some (nosM m):=by
 unfold Q119 zlf
 dsimp only
 have key:∀(l:List Val) (i:Int) (p:List Int),p.length+l.length≤1000000→runI (fun i (x:Val) (o:List Int) K=>bif decide ((o.length+([x.1]:List Int).length)*8≤140737488355328) then K (o++ [x.1]) else none) (fun o=>some o) l i p=some (p++l.map fun v=>v.1):=by
  intro l
  induction l with
  |nil=>intro i p _;rw[List.map_nil,List.append_nil];rfl
  |cons x r ih=>
   intro i p hp
   rw[List.length_cons] at hp
   rw[runI,zT (by simp only[List.length_singleton];omega),zC]
   dsimp only
   rw[ih (i+1) (p++ [x.1]) (by rw[List.length_append,List.length_singleton];omega),List.map_cons,List.append_assoc];rfl
 have:=loopI vnil m.2.1 (by rw[zj];omega) (fun i (x:Val) (o:List Int) K=>bif decide ((o.length+([x.1]:List Int).length)*8≤140737488355328) then K (o++ [x.1]) else none) (fun o=>some o) (fun k i o=>zbk k o i m) (fun k i o=>rfl) []
 rw[this,key m.2.1 0 [] (by simpa using h)]
 rfl
theorem z17a(style:Int)(m:ByteArray):(typC style m).size≤m.size+500:=by
 unfold typC
 split
 ·omega
 ·have:=zj0 m;omega
theorem zxv(style:Int)(h l:Nat):(bmPut style h l).1.size≤32:=by
 have hz:szM style≤16:=by unfold szM;split<;>omega
 unfold bmPut
 split
 ·dsimp only
  split
  ·rw[zjk];omega
  ·rw[z2z,zjk,zjk];omega
 ·exact Nat.zero_le _
theorem zj7(style:Int)(s:Spec)(t:ByteArray):(z34 style s t).1.size≤2*t.size+1000:=by
 unfold z34
 split
 ·exact Nat.zero_le _
 ·split
  ·exact Nat.zero_le _
  ·dsimp only
   rw[z2z]
   have:=zk5 style s.2.2.1 t.size
   have:=zjb (howC style s.2.1) t
   omega
structure Short(m:Msg):Prop where
 mti:m.1.size≤1000
 len:m.2.1.length≤1000
 txt:∀v∈m.2.1,v.2.1.size≤1000
theorem Short.ok{m:Msg}(h:Short m):MsgOk m:=⟨by have:=h.mti;omega,by have:=h.len;omega,fun v hv=>by have:=h.txt v hv;omega⟩
theorem zyq{s:zf}{m:Msg}(hm:MsgOk m)(h:Msg0 s m):Short m:=by
 have ho:=(z2p s).1 h.sch
 obtain⟨f1,f2,f3⟩:=z2g.1 h.flds
 refine⟨by have:=(z1i.1 h.right).1;omega,?_,fun v hv=> ?_⟩
 ·have:=z151 (lo:=0) f2 (fun v hv=>by
   have:=zeu (zay ho (f1 v hv).1)
   have e:=(zem (f1 v hv).1).2
   rw[e] at this
   exact⟨by omega,by omega⟩)
  omega
 ·obtain⟨v1,v2,v3,_,_⟩:=(z7o _ _ (hm.txt v hv)).1 (f1 v hv).2
  have:=z9h v1
  omega
theorem z155{x o:ByteArray}(h:o.size+x.size≤140737488355328):Q249 x o=some (o++x):=by
 unfold Q249 zpv z1w
 rw[zT h,zC,zc]
theorem z1b9(s:zf)(hs:s.2.2.1.length≤maxLen)(f:Fault):∀(l:List Val) (i:Int) (o:ByteArray),(∀v∈l,v.2.1.size≤1000)→o.size+3000*l.length≤100000000→
 runI (fun i (x:Val) (o:ByteArray) K=>(Q222 s x.1).bind fun r7=>(Q12 s.1 r7.1 x.2.1).bind fun r8=>(Q249 r8.1 o).bind fun r9=>K r9) (fun o=>some (f,o)) l i o=some (f,o++encF s l)
 | [],i,o,_,_=>by rw[encF,z14n];rfl
 |x::r,i,o,h,ho=>by
  have hx:=h x List.mem_cons_self
  have hc:=zj7 s.1 (getS s x.1) x.2.1
  rw[List.length_cons] at ho
  rw[runI,z3v s _ hs,zc,z1gq _ _ _ (by omega),zc]
  dsimp only
  rw[z155 (by omega),zc]
  rw[z1b9 s hs f r (i+1) _ (fun v hv=>h v (List.mem_cons_of_mem _ hv)) (by rw[z2z];omega),encF,ByteArray.append_assoc]
theorem z1v3(style:Int)(m:ByteArray)(hm:zz m=true)(hs:style=1∨style=2):∃k,Q250 style m=some (typC style m,k):=by
 have h4:=(z1i.1 hm).1
 unfold Q250 zpw typC
 rw[zbf m (by rw[zj];omega),zc,hm,Bool.not_true,zD]
 rcases hs with rfl|rfl
 ·exact⟨true,rfl⟩
 ·rw[zF (by decide),zD,zT rfl,zC,ziz m (by rw[zj];omega),zc,if_neg (by decide)]
  exact⟨_,rfl⟩
def wireC(s:zf)(m:Msg):ByteArray×Fault:=if(msgC s m).1=0 then(encC s m,zu) else(bs [],msgC s m)
theorem z159(s:zf)(m:Msg)(hs:s.2.2.1.length≤maxLen)(h:MsgOk m):Q248 s m=some (wireC s m):=by
 unfold Q248 zpu wireC
 rw[zrf s m hs h,zc]
 by_cases h0:(msgC s m).1=0
 case neg=>rw[zF h0,if_neg h0];rfl
 have hm:=zah.1 h0
 have hsh:=zyq h hm
 have ho:=(z2p s).1 hm.sch
 obtain⟨k,hk⟩:=z1v3 s.1 m.1 hm.right ho.1
 have ht:=z17a s.1 m.1
 have hb:=zxv s.1 (setH (nosM m)) (setL (nosM m))
 have:=hsh.mti
 have:=hsh.len
 rw[zT h0,Bool.not_true,zD,if_pos h0,hk,zc,z1nn m (by omega)]
 have w1:Q249 (typC s.1 m.1) (bs [])=some (typC s.1 m.1):=by
  rw[z155 (by show 0+_≤_;omega),z1ar]
 have w2:Q249 (bmPut s.1 (setH (nosM m)) (setL (nosM m))).1 (typC s.1 m.1)=some (typC s.1 m.1++(bmPut s.1 (setH (nosM m)) (setL (nosM m))).1):=z155 (by omega)
 dsimp only
 rw[w1,zc,zc,z1th _ _ _ (z26 _) (z2b _),zc,w2,zc]
 have hl:=loopI vnil m.2.1 (by rw[zj];omega) (fun i (x:Val) (o:ByteArray) K=>(Q222 s x.1).bind fun r7=>(Q12 s.1 r7.1 x.2.1).bind fun r8=>(Q249 r8.1 o).bind fun r9=>K r9) (fun o=>some (zu,o)) (fun k i o=>zct k m.2.1 (m.2.1.length:Int) i s zu o) (fun k i o=>rfl) (typC s.1 m.1++(bmPut s.1 (setH (nosM m)) (setL (nosM m))).1)
 rw[hl,z1b9 s hs _ m.2.1 0 _ hsh.txt (by rw[z2z];omega)]
 rfl
theorem z15r(s:zf)(m:Msg)(hs:s.2.2.1.length≤maxLen)(hm:Msg0 s m)(hsh:Short m):∀(l:List Val) (i:Int) (o:ByteArray),(∀v∈l,v∈m.2.1)→o.size+3000*l.length≤100000000→
 runI (fun i (x:Val) (o:ByteArray) K=>(Q104 s.1 (getS s x.1) x.2.1).bind fun r5=>bif decide (o.size+r5.1.size≤9223372036854775807) then K (o++r5.1) else none) (fun o=>some o) l i o=some (o++encF s l)
 | [],i,o,_,_=>by rw[encF,z14n];rfl
 |x::r,i,o,h,ho=>by
  have hx:=hsh.txt x (h x List.mem_cons_self)
  have hc:=zj7 s.1 (getS s x.1) x.2.1
  rw[List.length_cons] at ho
  rw[runI,z1pj _ _ _ (by omega),zc,zT (by omega),zC]
  dsimp only
  rw[z15r s m hs hm hsh r (i+1) _ (fun v hv=>h v (List.mem_cons_of_mem _ hv)) (by rw[z2z];omega),encF,ByteArray.append_assoc]
theorem z17z(s:zf)(m:Msg)(hs:s.2.2.1.length≤maxLen)(hm:Msg0 s m)(hsh:Short m):Q122 s m=some (encC s m):=by
 have ho:=(z2p s).1 hm.sch
 have ht:=z17a s.1 m.1
 have hb:=zxv s.1 (setH (nosM m)) (setL (nosM m))
 have:=hsh.mti
 have:=hsh.len
 unfold Q122 zlm
 have hT:Q123 s.1 m.1=some (typC s.1 m.1):=by
  unfold Q123 zln typC
  by_cases h1:s.1=1
  ·rw[zT h1,if_pos h1];rfl
  ·rw[zF h1,if_neg h1,zD,zrt _ (by rw[zj];omega)];rfl
 rw[z1c8 m (by omega),zc,z1ph _ _ (by unfold nosM;rw[List.length_map];omega),zc,hT,zc]
 dsimp only
 rw[zT (by omega),zC]
 have hl:=loopJ vnil m.2.1 (by rw[zj];omega) (fun i (x:Val) (o:ByteArray) K=>(Q104 s.1 (getS s x.1) x.2.1).bind fun r5=>bif decide (o.size+r5.1.size≤9223372036854775807) then K (o++r5.1) else none) (fun o=>some o) (fun k i o=>z4w k o i s m) (fun k i o h0 h1=>by
  show z4w (k+1) o i s m=_
  conv=>lhs;unfold z4w zbn
  have hx:m.2.1.getD i.toNat vnil∈m.2.1:=by
   rw[List.getD_eq_getElem?_getD,List.getElem?_eq_getElem (by omega)]
   exact List.getElem_mem _
  obtain⟨f1,_,_⟩:=z2g.1 hm.flds
  have hh:=(f1 _ hx).1
  rw[zT h1,zC,zl h0 h1,z3t s _ hs,zc]
  rcases z3u s (m.2.1.getD i.toNat vnil).1 with⟨i1,i2,i3⟩|⟨i1,i2,i3,i4⟩
  ·rw[i2] at hh;cases hh
  ·rw[zl i1 i2,zl h0 h1,i4]) (fun k o=>by
  show z4w (k+1) o m.2.1.length s m=_
  conv=>lhs;unfold z4w zbn
  rw[zF (by omega),zD]) (typC s.1 m.1++(bmPut s.1 (setH (nosM m)) (setL (nosM m))).1)
 rw[hl,z15r s m hs hm hsh m.2.1 0 _ (fun v hv=>hv) (by rw[z2z];omega),zc]
 rfl
end Groat

set_option maxRecDepth 10000
namespace Groat
open Go.IntKind renaming wrap→zW,i64→zI,u8→zU
open Go Go.Ref
def typZ(style:Int):Nat:=if style=2 then 2 else 4
def typT(style:Int)(b:ByteArray):ByteArray:=if style=2 then(z1l (b.extract 0 2) 4).1 else b.extract 0 4
def typD(s:zf)(b:ByteArray):Sum Int Zt0:=
 if b.size<typZ s.1 then .inl 2 else if zz (typT s.1 b)=true∧verM (typT s.1 b)=s.2.1 then .inr (typT s.1 b,typZ s.1) else .inl 7
def decF(s:zf)(b:ByteArray):List Int→Nat→List Val→List Val×Fault
 | [],a,o=>(o,if a<b.size then(12,129,()) else zu)
 |no::r,a,o=>if hasS s no=false then(o,(9,no,())) else if¬(z21 s.1 (getS s no) b a).2.2=0 then(o,((z21 s.1 (getS s no) b a).2.2,no,())) else decF s b r (z21 s.1 (getS s no) b a).2.1.toNat (o++ [(no,(z21 s.1 (getS s no) b a).1,())])
def decB(s:zf)(b t:ByteArray)(g:Nat×Nat×Int×Int):Msg×Fault:=
 if¬g.2.2.2=0 then((t,[],()),(g.2.2.2,1,())) else((t,(decF s b (elems g.1 g.2.1) g.2.2.1.toNat []).1,()),(decF s b (elems g.1 g.2.1) g.2.2.1.toNat []).2)
def decT(s:zf)(b:ByteArray):Sum Int Zt0→Msg×Fault
 | .inl e=>(msg0,(e,0,()))
 | .inr q=>decB s b q.1 (bmGet s.1 b q.2)
def decC(s:zf)(b:ByteArray):Msg×Fault:=if¬(z14 s).1=0 then(msg0,(1,-1,())) else decT s b (typD s b)
def typR:Sum Int Zt0→ByteArray×Int×Int
 | .inl e=>(bs [],0,e)
 | .inr q=>(q.1,(q.2:Int),0)
theorem z17b(style:Int)(b:ByteArray):(typT style b).size≤2000:=by
 unfold typT
 split
 ·generalize hg:z1l (b.extract 0 2) 4=g
  obtain⟨t,e,i⟩:=g
  have:=z5e hg
  dsimp only;omega
 ·rw[ByteArray.size_extract];omega
theorem z17c(s:zf)(t:ByteArray)(z:Nat)(ht:t.size≤2000):((Q192 t).bind fun r3=>(bif(!r3.2) then some (bs [],(0:Int),(7:Int)) else(bif(!(decide (r3.1=s.2.1))) then some (bs [],(0:Int),(7:Int)) else some (t,(z:Int),(0:Int)))))=some (typR (if zz t=true∧verM t=s.2.1 then .inr (t,z) else .inl 7)):=by
 rw[z8b t (by rw[zj];omega),zc]
 dsimp only
 cases hr:zz t with
 |false=>rfl
 |true=>
  rw[Bool.not_true,zD]
  by_cases hv:verM t=s.2.1
  ·rw[zT hv,if_pos ⟨rfl,hv⟩];rfl
  ·rw[zF hv,if_neg (fun h=>hv h.2)];rfl
theorem z1ow(s:zf)(b:ByteArray)(hb:b.size≤1099511627776):Q233 s b=some (typR (typD s b)):=by
 have h4:Q2 4=some 2:=by have:=z6c 4 (by decide) (by decide);exact this
 have e0:((2:Int)).toNat=2:=rfl
 have e4:((4:Int)).toNat=4:=rfl
 have hts:=z17b s.1 b
 unfold Q233 zpe typD
 by_cases h2:s.1=2
 ·have hz:typZ 2=2:=rfl
  have hT:typT 2 b=(z1l (b.extract 0 2) 4).1:=rfl
  rw[h2] at hts
  simp only[h2,decide_true,zC,h4,zc,e0]
  rw[hz]
  by_cases hc:b.size<2
  ·rw[zT (by omega),if_pos hc];rfl
  ·rw[zF (by omega),zD,zT (by decide),zC,zT (by omega),zC,if_neg hc,ziy _ _ (by rw[ByteArray.size_extract];omega),zc,←hT]
   exact z17c s (typT 2 b) 2 hts
 ·have hz:typZ s.1=4:=by unfold typZ;rw[if_neg h2]
  have hT:typT s.1 b=b.extract 0 4:=by unfold typT;rw[if_neg h2]
  simp only[h2,decide_false,zD,e4]
  rw[hz]
  by_cases hc:b.size<4
  ·rw[zT (by omega),if_pos hc];rfl
  ·rw[zF (by omega),zD,zT (by omega),zC,if_neg hc,←hT]
   exact z17c s (typT s.1 b) 4 hts
theorem z1ds{h l:Nat}{pre r:List Int}{no:Int}(he:elems h l=pre++no::r):nextN h l no=r.headD 0:=by
 have hs:=zjj h l
 rw[he] at hs
 have hp:=List.pairwise_append.1 hs
 have hq:=List.pairwise_cons.1 hp.2.1
 unfold nextN
 rw[he,List.filter_append,List.filter_eq_nil_iff.2 (fun x hx=>by have:=hp.2.2 x hx no List.mem_cons_self;simp;omega),List.nil_append,List.filter_cons_of_neg (by simp),List.filter_eq_self.2 (fun x hx=>by have:=hq.1 x hx;simp;omega)]
theorem z1hf(h l:Nat):nextN h l 0=(elems h l).headD 0:=by
 unfold nextN
 rw[List.filter_eq_self.2 (fun x hx=>by have:=zjv ((z83 h l x).1 hx);simp;omega)]
theorem zac(h l:Nat):(elems h l).length≤128:=by
 unfold elems
 exact Nat.le_trans (List.length_filter_le _ _) (by rw[z1ul];exact Nat.le_refl _)
theorem z15s{style:Int}{s:Spec}{b:ByteArray}{a:Nat}(hb:b.size≤1099511627776)(h:(z21 style s b a).2.2=0):(((z21 style s b a).2.1.toNat:Nat):Int)=(z21 style s b a).2.1:=by
 generalize hg:z21 style s b a=g at h⊢
 obtain⟨t,z,e⟩:=g
 dsimp only at h⊢
 subst h
 have:=(zxz hb hg).2.2.1
 omega
def finD(b:ByteArray)(e:Sum (ByteArray×Int×Msg×Fault×Msg) (ByteArray×Int×Msg×Fault×Msg)):Option (Msg×Fault):=Sum.elim (fun we=>some (we.2.2.1,we.2.2.2.1)) (fun we=>bif(decide (we.2.1<(we.1.size:Int))) then some (we.2.2.2.2,((12:Int),(129:Int),())) else some (we.2.2.2.2,zu)) e
theorem zro(s:zf)(hs:s.2.2.1.length≤maxLen)(b t:ByteArray)(hb:b.size≤1099511627776)(h l:Nat)(hh:h<B64)(hl:l<B64):∀(r pre:List Int) (k a:Nat) (o:List Val),elems h l=pre++r→o.length≤pre.length→r.length<k→
 (z7h k b (a:Int) (r.headD 0) s msg0 zu (t,o,()) ((h:Int),(l:Int),())).bind (finD b)=some ((t,(decF s b r a o).1,()),(decF s b r a o).2)
 |r,pre,0,a,o,_,_,hk=>by omega
 | [],pre,k+1,a,o,he,ho,hk=>by
   unfold z7h zcs decF
   rw[show([]:List Int).headD 0=0 from rfl,zT (p:=(0:Int)=0) rfl,Bool.not_true,zD,zc]
   unfold finD
   rw[Sum.elim_inr]
   dsimp only
   by_cases hc:a<b.size
   ·rw[zT (by omega),if_pos hc];rfl
   ·rw[zF (by omega),if_neg hc];rfl
 |no::r,pre,k+1,a,o,he,ho,hk=>by
  have hmem:no∈elems h l:=by rw[he];exact List.mem_append_right _ List.mem_cons_self
  have hno:=zjv ((z83 h l no).1 hmem)
  have hlen:=zac h l
  rw[he,List.length_append,List.length_cons] at hlen
  rw[List.length_cons] at hk
  unfold z7h zcs decF
  rw[show(no::r).headD 0=no from rfl,zF (by omega:¬no=0),Bool.not_false,zC,z3v s _ hs,zc]
  dsimp only
  cases hf:hasS s no with
  |false=>rfl
  |true=>
   rw[Bool.not_true,zD,if_neg (by decide),z1gp _ _ _ _ hb,zc]
   by_cases hz:(z21 s.1 (getS s no) b a).2.2=0
   case neg=>rw[zF hz,if_pos hz];rfl
   rw[zT hz,Bool.not_true,zD,if_neg (fun h=>h hz),zT (by simp only[List.length_singleton];omega),zC,z1e0 h l hh hl no (by omega) (by omega),zc,z1ds he,←z15s hb hz]
   exact zro s hs b t hb h l hh hl r (pre++ [no]) k _ _ (by rw[he,List.append_assoc];rfl) (by rw[List.length_append,List.length_append,List.length_singleton,List.length_singleton];omega) (by omega)
theorem z1aq{style:Int}{b:ByteArray}{a:Nat}(h:(bmGet style b a).2.2.2=0):(bmGet style b a).1<B64∧(bmGet style b a).2.1<B64∧(((bmGet style b a).2.2.1.toNat:Nat):Int)=(bmGet style b a).2.2.1:=by
 generalize hg:bmGet style b a=g at h⊢
 obtain⟨h',l,z,e⟩:=g
 dsimp only at h⊢
 subst h
 obtain⟨_,q1,q2,q3,_⟩:=z1ti hg
 exact⟨by show h'<18446744073709551616;omega,q2,by omega⟩
theorem z1hx(s:zf)(b:ByteArray)(hs:s.2.2.1.length≤maxLen)(hb:b.size≤1099511627776):Q232 s b=some (decC s b):=by
 unfold Q232 zpd decC
 rw[z9j s hs,zc]
 by_cases h0:(z14 s).1=0
 case neg=>rw[zF h0,if_pos h0];rfl
 rw[zT h0,Bool.not_true,zD,if_neg (fun h=>h h0),z1ow s b hb,zc]
 cases ht:typD s b with
 |inl e=>
  have he:e≠0:=by
   unfold typD at ht
   split at ht
   ·cases ht;decide
   ·split at ht
    ·cases ht
    ·cases ht;decide
  exact zdc he
 |inr q=>
  obtain⟨t,z⟩:=q
  refine(za7 (p:=(0:Int)=0) rfl).trans ?_
  dsimp only[typR,decT,decB]
  rw[z1tg _ _ _ hb,zc]
  by_cases he:(bmGet s.1 b z).2.2.2=0
  case neg=>rw[if_pos he];exact zdc he
  rw[if_neg (fun h=>h he)]
  refine(za7 he).trans ?_
  obtain⟨q1,q2,q3⟩:=z1aq he
  dsimp only[bmR]
  rw[z1e0 _ _ q1 q2 0 (by decide) (by decide),zc,z1hf,←q3]
  exact zro s hs b t hb _ _ q1 q2 (elems (bmGet s.1 b z).1 (bmGet s.1 b z).2.1) [] FUEL _ [] rfl (Nat.le_refl _) (by have:=zac (bmGet s.1 b z).1 (bmGet s.1 b z).2.1;rw[zn];omega)
end Groat

set_option maxRecDepth 10000
namespace Groat
open Go.IntKind renaming wrap→zW,i64→zI,u8→zU
open Go Go.Ref
theorem zyx(s:zf)(hs:s.2.2.1.length≤maxLen)(b t:ByteArray)(hb:b.size≤1099511627776)(L:List Int)(hL:L.length≤1000):∀(n j k a:Nat) (o:List Val),j+n=L.length→o.length≤j→n<k→
 (z5w k b L (a:Int) (j:Int) s msg0 zu (t,o,())).bind (finD b)=some ((t,(decF s b (L.drop j) a o).1,()),(decF s b (L.drop j) a o).2)
 |n,j,0,a,o,_,_,hk=>by omega
 |0,j,k+1,a,o,hj,ho,hk=>by
  unfold z5w zbo
  rw[zF (by omega),zD,List.drop_eq_nil_of_le (by omega),zc]
  unfold finD decF
  rw[Sum.elim_inr]
  dsimp only
  by_cases hc:a<b.size
  ·rw[zT (by omega),if_pos hc];rfl
  ·rw[zF (by omega),if_neg hc];rfl
 |n+1,j,k+1,a,o,hj,ho,hk=>by
  have hlt:j<L.length:=by omega
  have hw:∀{R:Type} (z:Option R),zd (j:Int) L.length z=z:=fun z=>zh hlt
  unfold z5w zbo
  rw[zT (by omega),zC,List.drop_eq_getElem_cons hlt,decF]
  simp only[hw,z1bh hlt]
  rw[z3t s _ hs,zc]
  rcases z3u s L[j] with⟨i1,i2,i3⟩|⟨i1,i2,i3,i4⟩
  ·rw[i1,zT (by decide),zC,if_pos i2];rfl
  ·rw[zF (by omega),zD,zl i1 i2,i4,if_neg (by rw[i3];decide),z1pe _ _ _ _ hb,zc]
   by_cases hz:(z21 s.1 (getS s L[j]) b a).2.2=0
   case neg=>rw[zF hz,if_pos hz];rfl
   rw[zT hz,Bool.not_true,zD,if_neg (fun h=>h hz),zT (by simp only[List.length_singleton];omega),zC,zo (by omega),←z15s hb hz]
   exact zyx s hs b t hb L hL n (j+1) k _ _ (by omega) (by rw[List.length_append,List.length_singleton];omega) (by omega)
def z1ol(s:zf)(b t:ByteArray)(z:Int):Option (Msg×Fault):=
 (Q116 t).bind fun r3=>(bif(!r3) then some (msg0,((7:Int),(0:Int),())) else(zd (0:Int) t.size (bif(!(decide ((zW zI ((zW zI (ze t ((0:Int)).toNat))-(48:Int)))=s.2.1))) then some (msg0,((7:Int),(0:Int),())) else((Q88 s.1 b z).bind fun r4=>(bif(!(decide (r4.2.2=(0:Int)))) then some ((t,[],()),(r4.2.2,(1:Int),())) else(z5w FUEL b r4.1 r4.2.1 0 s msg0 zu (t,[],())).bind (finD b))))))
theorem z176(s:zf)(hs:s.2.2.1.length≤maxLen)(b t:ByteArray)(z:Nat)(hb:b.size≤1099511627776)(ht:t.size≤2000):z1ol s b t z=some (decT s b (if zz t=true∧verM t=s.2.1 then .inr (t,z) else .inl 7)):=by
 unfold z1ol
 rw[ze0 t (by rw[zj];omega),zc]
 cases hr:zz t with
 |false=>rfl
 |true=>
  have h4:=(z1i.1 hr).1
  have hd:=z38 hr 0 (by decide)
  have hv:verM t=ze t 0-48:=by unfold verM;rw[hr];rfl
  have e1:zW zI (ze t 0)=ze t 0:=zi (by omega) (by omega)
  have e2:zW zI (ze t 0-48)=ze t 0-48:=zi (by omega) (by omega)
  rw[Bool.not_true,zD,h4,show(0:Int)=((0:Nat):Int) from rfl,zh (by decide),Int.toNat_natCast,e1,e2,←hv]
  by_cases he:verM t=s.2.1
  case neg=>rw[zF he,if_neg (fun h=>he h.2)];rfl
  rw[zT he,Bool.not_true,zD,if_pos ⟨rfl,he⟩,z1pc _ _ _ hb,zc]
  dsimp only[decT,decB]
  by_cases hz:(bmGet s.1 b z).2.2.2=0
  ·obtain⟨q1,q2,q3⟩:=z1aq hz
   have hg:get06 (bmGet s.1 b z)=(elems (bmGet s.1 b z).1 (bmGet s.1 b z).2.1,(bmGet s.1 b z).2.2.1,0):=by
    unfold get06
    rw[if_pos hz]
   rw[hg,if_neg (fun h=>h hz)]
   refine(za7 (p:=(0:Int)=0) rfl).trans ?_
   dsimp only
   have:=zyx s hs b t hb (elems (bmGet s.1 b z).1 (bmGet s.1 b z).2.1) (by have:=zac (bmGet s.1 b z).1 (bmGet s.1 b z).2.1;omega) (elems (bmGet s.1 b z).1 (bmGet s.1 b z).2.1).length 0 FUEL (bmGet s.1 b z).2.2.1.toNat [] (by omega) (Nat.le_refl _) (by have:=zac (bmGet s.1 b z).1 (bmGet s.1 b z).2.1;rw[zn];omega)
   rw[q3,List.drop_zero] at this
   exact this
  ·have hg:get06 (bmGet s.1 b z)=([],0,(bmGet s.1 b z).2.2.2):=by
    unfold get06
    rw[if_neg hz]
   rw[hg,if_pos hz]
   exact zdc hz
theorem z1d8(s:zf)(b:ByteArray)(hs:s.2.2.1.length≤maxLen)(hb:b.size≤1099511627776):Q124 s b=some (decC s b):=by
 have hts:=z17b s.1 b
 unfold Q124 z8x decC
 rw[z6a s hs,zc]
 by_cases h0:(z14 s).1=0
 case neg=>rw[zF h0,if_pos h0];rfl
 rw[zT h0,Bool.not_true,zD,if_neg (fun h=>h h0)]
 unfold typD
 by_cases h2:s.1=2
 ·have hz:typZ s.1=2:=by unfold typZ;rw[if_pos h2]
  have hT:typT s.1 b=(z1l (b.extract 0 2) 4).1:=by unfold typT;rw[if_pos h2]
  rw[zT h2,zC,hz]
  by_cases hc:b.size<2
  ·rw[zT (by omega),if_pos hc];rfl
  ·rw[zF (by omega),zD,zT (by omega),zC,zC,show((2:Int)).toNat=2 from rfl,zrr _ _ (by rw[ByteArray.size_extract];omega),zc,←hT,if_neg hc]
   exact z176 s hs b (typT s.1 b) 2 hb hts
 ·have hz:typZ s.1=4:=by unfold typZ;rw[if_neg h2]
  have hT:typT s.1 b=b.extract 0 4:=by unfold typT;rw[if_neg h2]
  rw[zF h2,zD,hz]
  by_cases hc:b.size<4
  ·rw[zT (by omega),if_pos hc];rfl
  ·rw[zF (by omega),zD,zT (by omega),zC,zD,show((4:Int)).toNat=4 from rfl,←hT,if_neg hc]
   exact z176 s hs b (typT s.1 b) 4 hb hts
end Groat

namespace Groat
open Go.IntKind renaming wrap→zW,i64→zI,u8→zU
open Go Go.Ref
theorem z1yz{s:zf}(h:Okay s){no:Int}(hh:hasS s no=true):2≤no∧no≤128:=by
 have:=zeu (zay h hh)
 rw[(zem hh).2] at this
 exact this
theorem z1ov{s:zf}(hs:s.1=1∨s.1=2){m y:ByteArray}(hm:zz m=true):typT s.1 (typC s.1 m++y)=m∧(typC s.1 m).size=typZ s.1:=by
 obtain⟨h4,hd⟩:=z1i.1 hm
 have e0:∀(p:ByteArray) (k:Nat),p.size=k→(p++y).extract 0 k=p:=fun p k hk=>by
  have:=z1yq (bs []) p y
  rw[z1ar,show(bs []).size=0 from rfl,Nat.zero_add,hk] at this
  exact this
 unfold typT typC typZ
 rcases hs with hs|hs
 ·have n2:¬s.1=2:=by omega
  rw[if_neg n2,if_pos hs,if_neg n2]
  exact⟨e0 m 4 h4,h4⟩
 ·have n1:¬s.1=1:=by omega
  have hz:(z2m m).1.size=2:=by rw[zb4 (by omega) hd,h4]
  rw[if_pos hs,if_neg n1,if_pos hs,e0 _ 2 hz]
  have:=z1tc (s:=m) (by omega) hd
  rw[h4] at this
  rw[show(4:Int)=((4:Nat):Int) from rfl,this]
  exact⟨rfl,hz⟩
end Groat

namespace Groat
open Go.IntKind renaming wrap→zW,i64→zI,u8→zU
open Go Go.Ref
abbrev Side:=zf×Map×List Int×List Val×Unit
abbrev vnilR:Val:=(0,bs [],())
def echoC(s:zf)(prev:List Int)(no:Int):Int:=bif !hasS s no then 9 else bif decide (no=39) then 1 else bif decide (no∈prev) then 10 else 0
def echoL(s:zf):List Int→List Int→Int→Option (Int×Int)
 |_,[],_=>none
 |prev,no::r,i=>bif decide (echoC s prev no=0) then echoL s (prev++ [no]) r (i+1) else some (echoC s prev no,i)
def codeC(a:Spec)(prev:List Int)(c:Val):Int:=bif decide (c.1<0) then 1 else bif decide (16<c.1) then 1 else bif decide (c.1∈prev) then 10 else valC a c.2.1
def codeL(a:Spec):List Int→List Val→Int→Option (Int×Int)
 |_,[],_=>none
 |prev,c::r,i=>bif decide (codeC a prev c=0) then codeL a (prev++ [c.1]) r (i+1) else some (codeC a prev c,i)
def rejC(s:Side):Int×Int×Int:=
 bif !decide ((z14 s.1).1=0) then(1,1,0) else bif !hasS s.1 39 then(9,1,1) else match echoL s.1 [] s.2.2.1 0 with
  |some e=>(e.1,2,e.2)
  |none=>match codeL (getS s.1 39) [] s.2.2.2.1 0 with
   |some e=>(e.1,3,e.2)
   |none=>bif decide ((0:Int)∈s.2.2.2.1.map fun c=>c.1) then(0,0,0) else(15,3,(s.2.2.2.1.length:Int))
structure SideOk(s:Side):Prop where
 sch:s.1.2.2.1.length≤maxLen
 echo:s.2.2.1.length≤1000000
 codes:s.2.2.2.1.length≤1000000
 txt:∀c∈s.2.2.2.1,c.2.1.size≤1099511627776
theorem z1bp(no:Int):∀(l:List Int) (i:Int),0≤i→∃r,runI (fun i (x:Int) (s:Unit) K=>bif decide (no=x) then some (Sum.inl i) else K s) (fun _=>some (Sum.inr ())) l i ()=some r∧(no∈l→∃j,r= .inl j∧0≤j)∧(no∉l→r= .inr ())
 | [],i,_=>⟨_,rfl,fun h=>(by cases h),fun _=>rfl⟩
 |x::l,i,h=>by
  rw[runI]
  by_cases e:no=x
  ·rw[zT e,zC]
   exact⟨_,rfl,fun _=>⟨i,rfl,h⟩,fun hn=>absurd (by rw[e];exact List.mem_cons_self) hn⟩
  ·rw[zF e,zD]
   obtain⟨r,h1,h2,h3⟩:=z1bp no l (i+1) (by omega)
   exact⟨r,h1,fun hm=>h2 ((List.mem_cons.1 hm).resolve_left e),fun hn=>h3 fun hm=>hn (List.mem_cons_of_mem _ hm)⟩
theorem z181(l:List Int)(no:Int)(h:l.length≤maxLen):Q224 l no=some (decide (no∈l)):=by
 unfold Q224 zp1 Q227 zp7
 have:=loopI (0:Int) l h (fun i (x:Int) (s:Unit) K=>bif decide (no=x) then some (Sum.inl i) else K s) (fun _=>some (Sum.inr ()))
  (fun k i s=>zcr k l no (l.length:Int) i) (fun k i s=>rfl) ()
 dsimp only
 obtain⟨r,h1,h2,h3⟩:=z1bp no l 0 (Int.le_refl _)
 rw[this,h1,zc]
 by_cases hm:no∈l
 ·obtain⟨j,rfl,hj⟩:=h2 hm
  rw[zT hm]
  show some (decide (0≤j))=_
  rw[zT hj]
 ·rw[h3 hm,zF hm];rfl
theorem z1bs(c:Val):∀(l:List Val) (i:Int),0≤i→∃r,runI (fun i (x:Val) (s:Val) K=>((Q202 x s).bind fun r1=>(bif r1.1 then some (Sum.inl (i,r1.2)) else K r1.2))) (fun s=>some (Sum.inr s)) l i c=some r∧(c.1∈l.map (fun v=>v.1)→∃j,r= .inl (j,c)∧0≤j)∧(c.1∉l.map (fun v=>v.1)→r= .inr c)
 | [],i,_=>⟨_,rfl,fun h=>(by cases h),fun _=>rfl⟩
 |x::l,i,h=>by
  rw[runI]
  unfold Q202 zoj
  rw[zc]
  dsimp only
  rw[List.map_cons]
  by_cases e:x.1=c.1
  ·rw[zT e,zC]
   exact⟨_,rfl,fun _=>⟨i,rfl,h⟩,fun hn=>absurd (by rw[e];exact List.mem_cons_self) hn⟩
  ·rw[zF e,zD]
   obtain⟨r,h1,h2,h3⟩:=z1bs c l (i+1) (by omega)
   exact⟨r,h1,fun hm=>h2 ((List.mem_cons.1 hm).resolve_left fun e2=>e e2.symm),fun hn=>h3 fun hm=>hn (List.mem_cons_of_mem _ hm)⟩
theorem z182(l:List Val)(c:Val)(h:l.length≤maxLen):Q223 l c=some (decide (c.1∈l.map fun v=>v.1),c):=by
 unfold Q223 zp0 Q225 zp3
 have:=loopI vnilR l h (fun i (x:Val) (s:Val) K=>((Q202 x s).bind fun r1=>(bif r1.1 then some (Sum.inl (i,r1.2)) else K r1.2))) (fun s=>some (Sum.inr s))
  (fun k i s=>zcp k l (l.length:Int) i s) (fun k i s=>rfl) c
 dsimp only
 obtain⟨r,h1,h2,h3⟩:=z1bs c l 0 (Int.le_refl _)
 rw[this,h1,zc]
 by_cases hm:c.1∈l.map fun v=>v.1
 ·obtain⟨j,rfl,hj⟩:=h2 hm
  rw[zT hm]
  show some (decide (0≤j),c)=_
  rw[zT hj]
 ·rw[h3 hm,zF hm];rfl
theorem z64{α:Type}{l:List α}{j:Nat}(h:j<l.length)(d:α):l.getD j d=l[j]:=by rw[List.getD_eq_getElem?_getD,List.getElem?_eq_getElem h];rfl
theorem z1yn(s:Side)(h:SideOk s){j:Nat}(hj:j<s.2.2.1.length):Q203 s (j:Int)=some (echoC s.1 (s.2.2.1.take j) s.2.2.1[j]):=by
 have he:=h.echo
 unfold Q203 zok echoC
 rw[zh hj,Int.toNat_natCast,z64 hj,z3v s.1 _ h.sch,zc]
 cases hasS s.1 s.2.2.1[j] with
 |false=>rfl
 |true=>
  dsimp only
  rw[Bool.not_true,zD,zD]
  cases decide (s.2.2.1[j]=39) with
  |true=>rfl
  |false=>
   rw[zD,zD,zT (by omega),zC,zT (by omega),zC,List.drop_zero,z181 _ _ (by rw[List.length_take,zj];omega),zc]
   cases decide (s.2.2.1[j]∈s.2.2.1.take j)<;>rfl
theorem z1yk(s:Side)(h:SideOk s)(a:Spec){j:Nat}(hj:j<s.2.2.2.1.length):Q201 s (j:Int) a=some (codeC a ((s.2.2.2.1.take j).map fun c=>c.1) s.2.2.2.1[j]):=by
 have he:=h.codes
 have ht:=h.txt _ (List.getElem_mem hj)
 unfold Q201 zoi codeC
 rw[zh hj,Int.toNat_natCast,z64 hj]
 cases decide (s.2.2.2.1[j].1<0) with
 |true=>rfl
 |false=>
  rw[zD,zD]
  cases decide (16<s.2.2.2.1[j].1) with
  |true=>rfl
  |false=>
   rw[zD,zD,zT (by omega),zC,zT (by omega),zC,List.drop_zero,z182 _ _ (by rw[List.length_take,zj];omega),zc]
   dsimp only
   cases decide (s.2.2.2.1[j].1∈(s.2.2.2.1.take j).map fun c=>c.1) with
   |true=>rfl
   |false=>rw[zD,zD,z2r _ _ ht];rfl
theorem z166(s:Side)(h:SideOk s)(sp:Spec):∀(n j k:Nat),j+n=s.2.2.1.length→n<k→z7e k (s.2.2.1.length:Int) (j:Int) s sp=some (match echoL s.1 (s.2.2.1.take j) (s.2.2.1.drop j) j with
 |some e=> .inl (e.1,2,e.2,s,sp)
 |none=> .inr (s,sp))
 |n,j,0,_,hk=>by omega
 |0,j,k+1,hj,hk=>by
  unfold z7e zcj
  rw[zF (by omega),zD,List.drop_eq_nil_of_le (by omega)];rfl
 |n+1,j,k+1,hj,hk=>by
  have hlt:j<s.2.2.1.length:=by omega
  have he:=h.echo
  unfold z7e zcj
  rw[zT (by omega),zC,z1yn s h hlt,zc,List.drop_eq_getElem_cons hlt,echoL]
  cases decide (echoC s.1 (s.2.2.1.take j) s.2.2.1[j]=0) with
  |false=>rfl
  |true=>
   rw[Bool.not_true,zD,zC]
   dsimp only
   rw[zo (by omega),List.take_append_getElem hlt]
   exact z166 s h sp n (j+1) k (by omega) (by omega)
def zeroL(t:Bool):List Val→Bool
 | []=>t
 |c::r=>zeroL (t||decide (c.1=0)) r
theorem z1d5(t:Bool):∀l:List Val,zeroL t l=(t||decide ((0:Int)∈l.map fun c=>c.1))
 | []=>by simp [zeroL]
 |c::r=>by
  rw[zeroL,z1d5 _ r,List.map_cons,Bool.or_assoc]
  congr 1
  rw[←Bool.decide_or]
  exact decide_eq_decide.2 ⟨fun h=>h.elim (fun e=>by rw[←e];exact List.mem_cons_self) (List.mem_cons_of_mem _),fun h=>(List.mem_cons.1 h).imp (fun e=>e.symm) id⟩
theorem zja(s:Side)(h:SideOk s)(a:Spec):∀(n j k:Nat) (t:Bool),j+n=s.2.2.2.1.length→n<k→∃t',z7f k t s.2.2.2.1 (s.2.2.2.1.length:Int) (j:Int) s a=some (match codeL a ((s.2.2.2.1.take j).map fun c=>c.1) (s.2.2.2.1.drop j) j with
 |some e=> .inl (e.1,3,e.2,t',s)
 |none=> .inr (zeroL t (s.2.2.2.1.drop j),s))
 |n,j,0,t,_,hk=>by omega
 |0,j,k+1,t,hj,hk=>by
  unfold z7f zck
  rw[zF (by omega),zD,List.drop_eq_nil_of_le (by omega)]
  exact⟨t,rfl⟩
 |n+1,j,k+1,t,hj,hk=>by
  have hlt:j<s.2.2.2.1.length:=by omega
  have he:=h.codes
  unfold z7f zck
  rw[zT (by omega),zC,zh hlt,z1yk s h a hlt,zc,List.drop_eq_getElem_cons hlt,codeL,zeroL]
  cases decide (codeC a ((s.2.2.2.1.take j).map fun c=>c.1) s.2.2.2.1[j]=0) with
  |false=>exact⟨t,rfl⟩
  |true=>
   rw[Bool.not_true,zD,zC]
   dsimp only
   rw[zo (by omega),Int.toNat_natCast,z64 hlt]
   have e:(s.2.2.2.1.take j).map (fun c=>c.1)++ [s.2.2.2.1[j].1]=(s.2.2.2.1.take (j+1)).map fun c=>c.1:=by rw[←List.take_append_getElem hlt,List.map_append];rfl
   rw[e]
   cases t with
   |true=>
    rw[zC,Bool.true_or]
    exact zja s h a n (j+1) k true (by omega) (by omega)
   |false=>
    rw[zD,Bool.false_or]
    exact zja s h a n (j+1) k _ (by omega) (by omega)
theorem zrk(s:Side)(h:SideOk s):Q199 s=some (rejC s):=by
 have he:=h.echo
 have hc:=h.codes
 unfold Q199 zob rejC
 rw[z9j s.1 h.sch,zc]
 cases decide ((z14 s.1).1=0) with
 |false=>rfl
 |true=>
  rw[Bool.not_true,zD,zD,z3v s.1 39 h.sch,zc]
  cases hasS s.1 39 with
  |false=>rfl
  |true=>
   dsimp only
   rw[Bool.not_true,zD,zD]
   have e1:=z166 s h (getS s.1 39) s.2.2.1.length 0 FUEL (by omega) (by rw[zn];omega)
   rw[List.take_zero,List.drop_zero,show((0:Nat):Int)=0 from rfl] at e1
   rw[e1,zc]
   cases echoL s.1 [] s.2.2.1 0 with
   |some e=>rfl
   |none=>
    dsimp only
    rw[Sum.elim_inr]
    unfold zoc
    dsimp only
    obtain⟨t',e2⟩:=zja s h (getS s.1 39) s.2.2.2.1.length 0 FUEL false (by omega) (by rw[zn];omega)
    rw[List.take_zero,List.drop_zero,show((0:Nat):Int)=0 from rfl,List.map_nil] at e2
    rw[e2,zc]
    cases codeL (getS s.1 39) [] s.2.2.2.1 0 with
    |some e=>rfl
    |none=>
     dsimp only
     rw[Sum.elim_inr]
     unfold zod
     rw[z1d5,Bool.false_or]
     dsimp only
     cases decide ((0:Int)∈s.2.2.2.1.map fun c=>c.1)<;>rfl
theorem zr5(l:List Val)(hl:l.length≤9223372036854775807)(m:Nat)(hm:m≤l.length)(e:Int):∀(n j k:Nat),j+n=m→n<k→∃r,z4b k l (m:Int) e (j:Int)=some r∧(e∈((l.take m).drop j).map (fun v=>v.1)→∃i,r= .inl i∧0≤i)∧(e∉((l.take m).drop j).map (fun v=>v.1)→r= .inr ())
 |n,j,0,_,hk=>by omega
 |0,j,k+1,hj,hk=>by
  unfold z4b z79
  rw[zF (by omega),zD,List.drop_eq_nil_of_le (by rw[List.length_take];omega)]
  exact⟨_,rfl,fun h=>(by cases h),fun _=>rfl⟩
 |n+1,j,k+1,hj,hk=>by
  have hlt:j<l.length:=by omega
  have hlt2:j<(l.take m).length:=by rw[List.length_take];omega
  unfold z4b z79
  rw[zT (by omega),zC,zh hlt,Int.toNat_natCast,z64 hlt,List.drop_eq_getElem_cons hlt2,List.map_cons,List.getElem_take]
  by_cases he:l[j].1=e
  ·rw[zT he,zC]
   exact⟨_,rfl,fun _=>⟨(j:Int),rfl,by omega⟩,fun hn=>absurd (by rw[he];exact List.mem_cons_self) hn⟩
  ·rw[zF he,zD]
   dsimp only
   rw[zo (by omega)]
   obtain⟨r,h1,h2,h3⟩:=zr5 l hl m hm e n (j+1) k (by omega) (by omega)
   exact⟨r,h1,fun hm=>h2 ((List.mem_cons.1 hm).resolve_left fun e2=>he e2.symm),fun hn=>h3 fun hm=>hn (List.mem_cons_of_mem _ hm)⟩
theorem z16b(l:List Val)(hl:l.length≤maxLen)(m:Nat)(hm:m≤l.length)(e:Int):∃r,Q150 l (m:Int) e=some r∧decide (0≤r)=decide (e∈(l.take m).map fun v=>v.1):=by
 unfold Q150 zc9
 rw[zj] at hl
 obtain⟨r,h1,h2,h3⟩:=zr5 l (by omega) m hm e m 0 FUEL (by omega) (by rw[zn];omega)
 rw[show((0:Nat):Int)=0 from rfl] at h1
 dsimp only
 rw[h1,zc]
 rw[List.drop_zero] at h2 h3
 by_cases hin:e∈(l.take m).map fun v=>v.1
 ·obtain⟨i,rfl,hi⟩:=h2 hin
  exact⟨i,rfl,by rw[zT hi,zT hin]⟩
 ·rw[h3 hin]
  exact⟨-1,rfl,by rw[zF hin];rfl⟩
theorem zqz(s:Side)(h:SideOk s)(t5:Int):∀(n j k:Nat),j+n=s.2.2.1.length→n<k→z77 k t5 (j:Int) s=some (match echoL s.1 (s.2.2.1.take j) (s.2.2.1.drop j) j with
 |some e=> .inl (e.1,2,e.2,t5,s)
 |none=> .inr (t5,s))
 |n,j,0,_,hk=>by omega
 |0,j,k+1,hj,hk=>by
  unfold z77 zc6
  rw[zF (by omega),zD,List.drop_eq_nil_of_le (by omega)];rfl
 |n+1,j,k+1,hj,hk=>by
  have hlt:j<s.2.2.1.length:=by omega
  have he:=h.echo
  have ih:=zqz s h t5 n (j+1) k (by omega) (by omega)
  have hw:∀{R:Type} (z:Option R),zd (j:Int) s.2.2.1.length z=z:=fun z=>zh hlt
  unfold z77 zc6
  simp only[hw]
  rw[zT (by omega),zC,Int.toNat_natCast,z64 hlt,z3t s.1 _ h.sch,zc,List.drop_eq_getElem_cons hlt,echoL]
  unfold echoC
  rcases z3u s.1 s.2.2.1[j] with⟨h1,h2,_⟩|⟨h1,_,h2,_⟩
  ·rw[h1,h2];rfl
  ·rw[h2,zF (by omega),zD,Bool.not_true,zD]
   cases decide (s.2.2.1[j]=39) with
   |true=>rfl
   |false=>
    rw[zD,zD,zT (by omega),zC,zT (by omega),zC,List.drop_zero,zko _ _ (by rw[List.length_take,zj];omega),zc]
    cases decide (s.2.2.1[j]∈s.2.2.1.take j) with
    |true=>rfl
    |false=>
     rw[zD,zD,zT rfl,zC]
     rw[zo (by omega),List.take_append_getElem hlt]
     exact ih
theorem zqy(s:Side)(h:SideOk s)(t5:Int)(h5:0≤t5∧t5<s.1.2.2.1.length)(hs5:List.getD s.1.2.2.1 t5.toNat spec0=getS s.1 39):∀(n j k:Nat),j+n=s.2.2.2.1.length→n<k→z78 k t5 (j:Int) s=some (match codeL (getS s.1 39) ((s.2.2.2.1.take j).map fun c=>c.1) (s.2.2.2.1.drop j) j with
 |some e=> .inl (e.1,3,e.2,s)
 |none=> .inr s)
 |n,j,0,_,hk=>by omega
 |0,j,k+1,hj,hk=>by
  unfold z78 zc7
  rw[zF (by omega),zD,List.drop_eq_nil_of_le (by omega)];rfl
 |n+1,j,k+1,hj,hk=>by
  have hlt:j<s.2.2.2.1.length:=by omega
  have he:=h.codes
  have ih:=zqy s h t5 h5 hs5 n (j+1) k (by omega) (by omega)
  have hw:∀{R:Type} (z:Option R),zd (j:Int) s.2.2.2.1.length z=z:=fun z=>zh hlt
  have hw5:∀{R:Type} (z:Option R),zd t5 s.1.2.2.1.length z=z:=fun z=>zl h5.1 h5.2
  have ht:=h.txt _ (List.getElem_mem hlt)
  obtain⟨r,f1,f2⟩:=z16b s.2.2.2.1 (by rw[zj];omega) j (by omega) s.2.2.2.1[j].1
  unfold z78 zc7
  simp only[hw,hw5]
  rw[zT (by omega),zC,Int.toNat_natCast,z64 hlt,f1,zc,f2,hs5,z27 _ _ ht,zc,List.drop_eq_getElem_cons hlt,codeL]
  unfold codeC
  cases decide (s.2.2.2.1[j].1<0) with
  |true=>rfl
  |false=>
   rw[zD,zD]
   cases decide (16<s.2.2.2.1[j].1) with
   |true=>rfl
   |false=>
    rw[zD,zD]
    cases decide (s.2.2.2.1[j].1∈(s.2.2.2.1.take j).map fun c=>c.1) with
    |true=>rfl
    |false=>
     rw[zD,zD]
     cases decide (valC (getS s.1 39) s.2.2.2.1[j].2.1=0) with
     |false=>rfl
     |true=>
      rw[Bool.not_true,zD,zC]
      have e:(s.2.2.2.1.take j).map (fun c=>c.1)++ [s.2.2.2.1[j].1]=(s.2.2.2.1.take (j+1)).map fun c=>c.1:=by rw[←List.take_append_getElem hlt,List.map_append];rfl
      rw[zo (by omega),e]
      exact ih
theorem zu1(s:Side)(h:SideOk s):Q146 s=some (rejC s):=by
 have he:=h.echo
 have hc:=h.codes
 unfold Q146 zmz rejC
 rw[z6a s.1 h.sch,zc]
 cases decide ((z14 s.1).1=0) with
 |false=>rfl
 |true=>
  rw[Bool.not_true,zD,zD,z3t s.1 39 h.sch,zc]
  rcases z3u s.1 39 with⟨h1,h2,_⟩|⟨h1,h1',h2,h3⟩
  ·rw[h1,h2];rfl
  ·rw[h2,zF (by omega),zD,Bool.not_true,zD]
   dsimp only
   have e1:=zqz s h (idxS s.1.2.2.1 39 0) s.2.2.1.length 0 FUEL (by omega) (by rw[zn];omega)
   rw[List.take_zero,List.drop_zero,show((0:Nat):Int)=0 from rfl] at e1
   rw[e1,zc]
   cases echoL s.1 [] s.2.2.1 0 with
   |some e=>rfl
   |none=>
    dsimp only
    rw[Sum.elim_inr]
    unfold zn0
    dsimp only
    have e2:=zqy s h (idxS s.1.2.2.1 39 0) ⟨h1,h1'⟩ h3 s.2.2.2.1.length 0 FUEL (by omega) (by rw[zn];omega)
    rw[List.take_zero,List.drop_zero,show((0:Nat):Int)=0 from rfl,List.map_nil] at e2
    rw[e2,zc]
    cases codeL (getS s.1 39) [] s.2.2.2.1 0 with
    |some e=>rfl
    |none=>
     dsimp only
     rw[Sum.elim_inr]
     unfold zn1
     obtain⟨r,f1,f2⟩:=z16b s.2.2.2.1 (by rw[zj];omega) s.2.2.2.1.length (Nat.le_refl _) 0
     rw[List.take_length] at f2
     rw[f1,zc]
     by_cases hr:0≤r
     ·rw[zT hr] at f2
      rw[zF (by omega),←f2];rfl
     ·rw[zF hr] at f2
      rw[zT (by omega),←f2];rfl
end Groat

namespace Groat
open Go.IntKind renaming wrap→zW,i64→zI,u8→zU
open Go Go.Ref
end Groat

namespace Groat
open Go.IntKind renaming wrap→zW,i64→zI,u8→zU
open Go Go.Ref
abbrev zf4:=List Side×Int×Unit
abbrev z1z7:zf:=((0:Int),(0:Int),([]:List Spec),())
abbrev side0:Side:=(z1z7,map0,([]:List Int),([]:List Val),())
abbrev tCode:Ty:= .pair (.int .i64) (.pair .str .unit)
abbrev tSide:Ty:= .pair z1z8 (.pair tMap (.pair (.sl 0 (.int .i64)) (.pair (.sl 0 tCode) .unit)))
abbrev z153:Ty:= .pair (.arr 2 tSide) (.pair (.int .i64) .unit)
theorem z1ou{c:zf4}(h:c.1.length=2):∃p q,c=([p,q],c.2.1,()):=by
 obtain⟨l,n,u⟩:=c
 match l,h with
 | [p,q],_=>exact⟨p,q,rfl⟩
theorem zyb:∃k,FUEL=k+1+1+1:=⟨FUEL-3,by rw[zn]⟩
def zdj(s:Side):Bool:=decide ((200:Int)<(s.1.2.2.1.length:Int))||(decide ((300:Int)<(s.2.2.1.length:Int))||(decide ((300:Int)<(s.2.2.2.1.length:Int))||s.2.2.2.1.any fun c=>decide ((1200:Int)<(c.2.1.size:Int))))
theorem z1nb:∀(l:List Val) (i:Int),runI (fun i (x:Val) (s:Unit) K=>(bif(decide ((1200:Int)<((x.2.1).size:Int))) then some (Sum.inl true) else K s)) (fun _=>some (Sum.inr ())) l i ()=some (bif l.any (fun c=>decide ((1200:Int)<(c.2.1.size:Int))) then Sum.inl true else Sum.inr ())
 | [],i=>rfl
 |x::r,i=>by
  rw[runI,List.any_cons]
  cases decide ((1200:Int)<(x.2.1.size:Int)) with
  |true=>rfl
  |false=>exact z1nb r (i+1)
theorem zu2(s:Side)(h:s.2.2.2.1.length≤maxLen):Q149 s=some (zdj s):=by
 unfold Q149 zn5 zdj
 cases decide ((200:Int)<(s.1.2.2.1.length:Int)) with
 |true=>rfl
 |false=>
  rw[zD,Bool.false_or]
  cases decide ((300:Int)<(s.2.2.1.length:Int)) with
  |true=>rfl
  |false=>
   rw[zD,Bool.false_or]
   cases decide ((300:Int)<(s.2.2.2.1.length:Int)) with
   |true=>rfl
   |false=>
    rw[zD,Bool.false_or]
    have:=loopI vnilR s.2.2.2.1 h (fun i (x:Val) (s:Unit) K=>(bif(decide ((1200:Int)<((x.2.1).size:Int))) then some (Sum.inl true) else K s)) (fun _=>some (Sum.inr ()))
     (fun k i u=>zc8 k i s) (fun k i u=>rfl) ()
    dsimp only
    rw[this,z1nb]
    cases s.2.2.2.1.any (fun c=>decide ((1200:Int)<(c.2.1.size:Int)))<;>rfl
theorem z16f{s:Side}(h:zdj s=false):SideOk s∧s.1.2.2.1.length≤200∧s.2.2.1.length≤300∧s.2.2.2.1.length≤300∧∀c∈s.2.2.2.1,c.2.1.size≤1200:=by
 unfold zdj at h
 simp only[Bool.or_eq_false_iff,decide_eq_false_iff_not] at h
 obtain⟨h1,h2,h3,h4⟩:=h
 have ht:∀c∈s.2.2.2.1,c.2.1.size≤1200:=fun c hc=>by
  by_cases e:(1200:Int)<(c.2.1.size:Int)
  ·rw[List.any_eq_true.2 ⟨c,hc,zT e⟩] at h4;cases h4
  ·omega
 exact⟨⟨by rw[zj];omega,by omega,by omega,fun c hc=>by have:=ht c hc;omega⟩,by omega,by omega,by omega,ht⟩
structure CfgOk(p q:Side):Prop where
 sp:SideOk p
 sq:SideOk q
 pm:MapOk p.2.1
 qm:MapOk q.2.1
 p200:p.1.2.2.1.length≤200
 q200:q.1.2.2.1.length≤200
 pe:p.2.2.1.length≤300
 qe:q.2.2.1.length≤300
 pml:p.2.1.2.1.length≤300
 qml:q.2.1.2.1.length≤300
 ptxt:∀c∈p.2.2.2.1,c.2.1.size≤1200
 qtxt:∀c∈q.2.2.2.1,c.2.1.size≤1200
theorem zr9{m:Map}(h:z81 m=false):m.2.1.length≤300:=by
 unfold z81 at h
 simp only[Bool.or_eq_false_iff,decide_eq_false_iff_not] at h
 omega
theorem z1h8{p q:Side}{n:Int}(h:Wf z153 ([p,q],n,())):∃g,Q154 ([p,q],n,())=some g∧(g=false→CfgOk p q):=by
 have hp:Wf tSide p:=h.1.2 p (by simp)
 have hq:Wf tSide q:=h.1.2 q (by simp)
 have w0:∀{R:Type} (x:Option R),zd 0 2 x=x:=fun x=>zl (by omega) (by omega)
 have w1:∀{R:Type} (x:Option R),zd 1 2 x=x:=fun x=>zl (by omega) (by omega)
 unfold Q154 znb
 simp only[w0,w1]
 show∃g,((Q149 p).bind fun r1=>(bif r1 then some true else((Q149 q).bind fun r2=>(bif r2 then some true else((Q137 p.2.1).bind fun r3=>(bif r3 then some true else((Q137 q.2.1).bind fun r4=>some r4)))))))=some g∧_
 rw[zu2 p hp.2.2.2.1.1,zc]
 cases h1:zdj p with
 |true=>exact⟨true,rfl,fun h=>by cases h⟩
 |false=>
  rw[zD,zu2 q hq.2.2.2.1.1,zc]
  cases h2:zdj q with
  |true=>exact⟨true,rfl,fun h=>by cases h⟩
  |false=>
   rw[zD,z1d2 hp.2.1,zc]
   cases h3:z81 p.2.1 with
   |true=>exact⟨true,rfl,fun h=>by cases h⟩
   |false=>
    rw[zD,z1d2 hq.2.1,zc]
    refine⟨_,rfl,fun h4=> ?_⟩
    obtain⟨a1,a2,a3,a4,a5⟩:=z16f h1
    obtain⟨b1,b2,b3,b4,b5⟩:=z16f h2
    exact⟨a1,b1,z16e h3,z16e h4,a2,b2,a3,b3,zr9 h3,zr9 h4,a5,b5⟩
def cfgC(p q:Side)(n:Int):Int×Int×Int:=
 bif decide (n<1) then(5,2,0) else bif decide (65535<n) then(5,2,0)
 else bif !decide ((rejC p).1=0) then((rejC p).1,0,1) else bif !decide ((mapC p.2.1 p.1 q.1).1=0) then((mapC p.2.1 p.1 q.1).1,0,2)
 else bif !decide ((rejC q).1=0) then((rejC q).1,1,1) else bif !decide ((mapC q.2.1 q.1 p.1).1=0) then((mapC q.2.1 q.1 p.1).1,1,2) else(0,0,0)
theorem w0'{R:Type}(x:Option R):zd 0 2 x=x:=zl (by omega) (by omega)
theorem w1'{R:Type}(x:Option R):zd 1 2 x=x:=zl (by omega) (by omega)
theorem x10:zW zI ((1:Int)-(0:Int))=1:=by decide
theorem x11:zW zI ((1:Int)-(1:Int))=0:=by decide
theorem x01:zW zI ((0:Int)+(1:Int))=1:=by decide
theorem x12:zW zI ((1:Int)+(1:Int))=2:=by decide
theorem gp(p q:Side):List.getD [p,q] (0:Int).toNat side0=p:=rfl
theorem gq(p q:Side):List.getD [p,q] (1:Int).toNat side0=q:=rfl
theorem z17x(p q:Side)(n:Int)(h:CfgOk p q):Q205 ([p,q],n,())=some (cfgC p q n):=by
 obtain⟨k,hk⟩:=zyb
 unfold Q205 zom cfgC
 dsimp only
 cases decide (n<1) with
 |true=>rfl
 |false=>
  cases decide (65535<n) with
  |true=>rfl
  |false=>
   rw[zD,zD,zD,zD,hk]
   unfold z7g z96
   simp only[w0',w1',x10,x11,x01,x12,gp,gq]
   rw[zT (by decide:(0:Int)<2),zC,zrk p h.sp,zc]
   cases decide ((rejC p).1=0) with
   |false=>rfl
   |true=>
    rw[Bool.not_true,zD,zD,z8a p.2.1 p.1 q.1 h.pm h.sp.sch h.sq.sch,zc]
    cases decide ((mapC p.2.1 p.1 q.1).1=0) with
    |false=>rfl
    |true=>
     rw[Bool.not_true,zD,zD]
     unfold z7g z96
     simp only[w0',w1',x10,x11,x01,x12,gp,gq]
     rw[zT (by decide:(1:Int)<2),zC,zrk q h.sq,zc]
     cases decide ((rejC q).1=0) with
     |false=>rfl
     |true=>
      rw[Bool.not_true,zD,zD,z8a q.2.1 q.1 p.1 h.qm h.sq.sch h.sp.sch,zc]
      cases decide ((mapC q.2.1 q.1 p.1).1=0) with
      |false=>rfl
      |true=>
       rw[Bool.not_true,zD,zD]
       unfold z7g z96
       rw[zF (by decide:¬(2:Int)<2),zD]
       rfl
theorem z1gc(p q:Side)(n:Int)(h:CfgOk p q):Q152 ([p,q],n,())=some (cfgC p q n):=by
 obtain⟨k,hk⟩:=zyb
 unfold Q152 zn8 cfgC
 dsimp only
 cases decide (n<1) with
 |true=>rfl
 |false=>
  cases decide (65535<n) with
  |true=>rfl
  |false=>
   rw[zD,zD,zD,zD,hk]
   unfold z7a z93
   simp only[w0',w1',x10,x11,x01,x12,gp,gq]
   rw[zT (by decide:(0:Int)<2),zC,zu1 p h.sp,zc]
   cases decide ((rejC p).1=0) with
   |false=>rfl
   |true=>
    rw[Bool.not_true,zD,zD,zdq p.2.1 p.1 q.1 h.pm h.sp.sch h.sq.sch,zc]
    cases decide ((mapC p.2.1 p.1 q.1).1=0) with
    |false=>rfl
    |true=>
     rw[Bool.not_true,zD,zD]
     unfold z7a z93
     simp only[w0',w1',x10,x11,x01,x12,gp,gq]
     rw[zT (by decide:(1:Int)<2),zC,zu1 q h.sq,zc]
     cases decide ((rejC q).1=0) with
     |false=>rfl
     |true=>
      rw[Bool.not_true,zD,zD,zdq q.2.1 q.1 p.1 h.qm h.sq.sch h.sp.sch,zc]
      cases decide ((mapC q.2.1 q.1 p.1).1=0) with
      |false=>rfl
      |true=>
       rw[Bool.not_true,zD,zD]
       unfold z7a z93
       rw[zF (by decide:¬(2:Int)<2),zD]
       rfl
theorem z158(s:Side)(h:SideOk s)(h2:s.1.2.2.1.length≤200):Q148 s=some s:=by
 have he:=h.echo
 have hc:=h.codes
 unfold Q148 zn3
 rw[z1hu s.1 (by omega),zc,zT (by simp;omega),zC,zT (by simp;omega),zC]
 rfl
theorem set_p(p q r:Side):List.set [p,q] (0:Int).toNat r=[r,q]:=rfl
theorem set_q(p q r:Side):List.set [p,q] (1:Int).toNat r=[p,r]:=rfl
theorem gp'(p q:Side):List.getD [p,q] (0:Int).toNat ((((0:Int),(0:Int),([]:List Spec),()),(([]:List Pair),([]:List Rule),()),([]:List Int),([]:List Val),()):Side)=p:=rfl
theorem gq'(p q:Side):List.getD [p,q] (1:Int).toNat ((((0:Int),(0:Int),([]:List Spec),()),(([]:List Pair),([]:List Rule),()),([]:List Int),([]:List Val),()):Side)=q:=rfl
theorem z1hw(p q:Side)(n:Int)(h:CfgOk p q):Q153 ([p,q],n,())=some ([p,q],n,()):=by
 obtain⟨k,hk⟩:=zyb
 unfold Q153 zna
 dsimp only
 rw[hk]
 unfold z7b z94
 simp only[w0',w1',x10,x11,x01,x12,gp,gq,gp',gq',set_p,set_q]
 rw[zT (by decide:(0:Int)<2),zC,z157 _ h.pm,zc,z158 p h.sp h.p200,zc]
 unfold z7b z94
 simp only[w0',w1',x10,x11,x01,x12,gp,gq,gp',gq',set_p,set_q]
 rw[zT (by decide:(1:Int)<2),zC,z157 _ h.qm,zc,z158 q h.sq h.q200,zc]
 unfold z7b z94
 rw[zF (by decide:¬(2:Int)<2),zD]
 rfl
end Groat

namespace Groat
open Go.IntKind renaming wrap→zW,i64→zI,u8→zU
open Go Go.Ref
theorem w0{R:Type}(x:Option R):zd 0 2 x=x:=zl (by omega) (by omega)
theorem w1{R:Type}(x:Option R):zd 1 2 x=x:=zl (by omega) (by omega)
end Groat

namespace Groat
open Go.IntKind renaming wrap→zW,i64→zI,u8→zU
open Go Go.Ref
theorem z1g6(r:Rule)(b:zf)(t:ByteArray)(hp:r.2.2.2.2.1.length≤maxLen)(hb:b.2.2.1.length≤maxLen)(ht:t.size≤maxLen):Q131 r b t=some (zy r b t):=by
 unfold Q131 zlx zy
 rw[z3t b _ hb,Option.bind_some,zdp _ _ hp,Option.bind_some]
 rcases z3u b r.2.2.1 with⟨h1,h2,h3⟩|⟨h1,h2,h3,h4⟩
 ·rw[h1,h2,zT (by omega:(-1:Int)<0)]
  generalize decide (r.1=1)=k1
  generalize decide (r.1=2)=k2
  generalize decide (r.1=3)=k3
  generalize decide (r.1=4)=k4
  generalize decide (r.1=5)=k5
  generalize zp r.2.2.2.2.1 t=q
  obtain⟨q1,q2⟩:=q
  cases k1<;>cases k2<;>cases k3<;>cases k4<;>cases k5<;>cases q2<;>rfl
 ·rw[h3,zF (by omega:¬idxS b.2.2.1 r.2.2.1 0<0),zl h1 h2,h4,z1pg t _ ht,Option.bind_some]
  generalize decide (r.1=1)=k1
  generalize decide (r.1=2)=k2
  generalize decide (r.1=3)=k3
  generalize decide (r.1=4)=k4
  generalize decide (r.1=5)=k5
  generalize padD t (getS b r.2.2.1).2.2.2.1=p
  generalize zp r.2.2.2.2.1 t=q
  obtain⟨p1,p2⟩:=p
  obtain⟨q1,q2⟩:=q
  cases k1<;>cases k2<;>cases k3<;>cases k4<;>cases k5<;>cases p2<;>cases q2<;>rfl
end Groat

