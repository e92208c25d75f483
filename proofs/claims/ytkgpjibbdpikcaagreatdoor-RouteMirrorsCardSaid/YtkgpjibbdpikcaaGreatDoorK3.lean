/- No condition. -/
import Derived.Test.YtkgpjibbdpikcaaGreatDoorK2
set_option linter.unusedVariables false
set_option linter.unusedSimpArgs false
set_option maxRecDepth 100000
namespace Groat
open Go.IntKind renaming wrap→zW,i64→zI,u8→zU
open Go Go.Ref
theorem zk3(x p y:ByteArray):(x++p++y).extract x.size (x.size+p.size)=p:=by
 apply z5f
 rw[z1y,z3l,z3l,List.append_assoc,←zg,←zg,List.take_append,List.drop_append_of_le_length (by simp),]
 simp
theorem zu(x y:ByteArray):(x++y).size=x.size+y.size:=ByteArray.size_append ..
theorem zac(b:ByteArray){i j k:Nat}(h:i≤j)(h2:j≤k):b.extract i j++b.extract j k=b.extract i k:=by
 apply z5f
 rw[z3l,z1y,z1y,z1y]
 generalize bl b=l
 have e1:l.take j=(l.take k).take j:=by rw[List.take_take];congr 1;omega
 rw[e1]
 generalize l.take k=q
 rw[←List.take_append_drop (j-i) (q.drop i),List.drop_take,List.drop_drop,show i+(j-i)=j by omega]
theorem z1ef{n w:Int}(h:0≤n∧1≤w∧w≤18∧n.toNat/10^w.toNat=0):getD' (bl (putD n w).1)=(n,true)∧(putD n w).1.size=w.toNat∧allD (bl (putD n w).1)=true∧(putD n w).2=true:=by
 rw[zpk h]
 dsimp only
 have hb:bl (strOf (dgs w.toNat n.toNat))=dgs w.toNat n.toNat:=z21 (z7w (zk2 _ _))
 refine⟨?_,by rw[z1z,z5h],by rw[hb];exact zk2 _ _,rfl⟩
 rw[hb]
 unfold getD'
 rw[z5h,zk2,if_pos ⟨by omega,by omega,rfl⟩,z10h _ _ h.2.2.2,Int.toNat_of_nonneg h.1]
theorem zvv{s:ByteArray}{n:Int}(h:getD' (bl s)=(n,true)):putD n s.size=(s,true)∧0≤n:=by
 unfold getD' at h
 split at h
 ·rename_i hc
  obtain⟨h1,h2,h3⟩:=hc
  have hv:valD (bl s) 0=n:=congrArg Prod.fst h
  have hn:=(zpw (bl s) 0 0 h3 (Int.le_refl _) (by simp) (by omega)).1
  rw[hv] at hn
  obtain⟨e1,e2⟩:=zyq (bl s).length n.toNat (bl s) h3 rfl (by rw[hv,Int.toNat_of_nonneg hn])
  rw[zg] at e1 e2 h1 h2
  refine⟨?_,hn⟩
  rw[zpk ⟨hn,by omega,by omega,by rw[Int.toNat_natCast];exact e2⟩,Int.toNat_natCast,e1,z3f]
 ·cases h
theorem zfd{style form:Int}:preOk style form=true↔(style=1∨style=2)∧(form=2∨form=3):=by unfold preOk;rw[decide_eq_true_eq]
theorem z19k{style form:Int}{n:Nat}(hk:preOk style form=true)(hn:n/10^form.toNat=0):preT style form (z29 style form n).1=some (n:Int)∧(z29 style form n).1.size=preS style form∧(z29 style form n).2=0:=by
 have hk2:=zfd.1 hk
 obtain⟨p1,p2,p3,p4⟩:=z1ef (n:=(n:Int)) (w:=form) ⟨by omega,by omega,by omega,by rw[Int.toNat_natCast];exact hn⟩
 unfold preT preS z29
 rw[hk,zC,p4,zC]
 dsimp only
 by_cases hs:style=2
 ·rw[if_pos hs,if_pos hs,if_pos hs]
  have hb:=zlk (s:=(putD n form).1) (by omega) p3
  rw[p2,Int.toNat_of_nonneg (by omega)] at hb
  rw[hb]
  dsimp only
  rw[if_pos rfl,p1]
  refine⟨rfl,?_,rfl⟩
  rw[z4o (by omega) p3,p2]
 ·rw[if_neg hs,if_neg hs,if_neg hs,p1]
  exact⟨rfl,p2,rfl⟩
theorem z13w{style form n:Int}{s:ByteArray}(hk:preOk style form=true)(h:preT style form s=some n)(hs:s.size=preS style form):z29 style form n=(s,0)∧0≤n:=by
 have hk2:=zfd.1 hk
 unfold preT at h
 unfold preS at hs
 unfold z29
 rw[hk,zC]
 by_cases h2:style=2
 ·rw[if_pos h2] at h hs⊢
  generalize hg:z1m s form=g at h
  obtain⟨t,e,i⟩:=g
  dsimp only at h
  split at h
  case isFalse=>cases h
  rename_i he
  subst he
  obtain⟨a1,a2,a3⟩:=zef hg (by omega)
  split at h
  case isFalse=>cases h
  rename_i ho
  have hn:(getD' (bl t)).1=n:=by simpa using h
  obtain⟨c1,c2⟩:=zvv (s:=t) (n:=n) (by rw[←hn,←ho])
  rw[a2] at c1
  rw[c1,zC]
  dsimp only
  rw[a1]
  exact⟨rfl,c2⟩
 ·rw[if_neg h2] at h hs⊢
  split at h
  case isFalse=>cases h
  rename_i ho
  have hn:(getD' (bl s)).1=n:=by simpa using h
  obtain⟨c1,c2⟩:=zvv (s:=s) (n:=n) (by rw[←hn,←ho])
  rw[hs,Int.toNat_of_nonneg (by omega)] at c1
  rw[c1]
  exact⟨rfl,c2⟩
theorem z1ee{style form:Int}{n:Nat}(hk:preOk style form=true)(hn:n/10^form.toNat=0)(x y:ByteArray):z1s style form (x++(z29 style form n).1++y) x.size=((n:Int),((x.size+(z29 style form n).1.size:Nat):Int),0):=by
 obtain⟨h1,h2,h3⟩:=z19k hk hn
 unfold z1s
 rw[hk,zT ⟨by omega,by rw[zu,zu];omega⟩,Bool.and_true,zC,Int.toNat_natCast,if_neg (by rw[zu,zu];omega),←h2,zk3,h1]
theorem z19l{style form n z:Int}{b:ByteArray}{a:Nat}(h:z1s style form b a=(n,z,0)):preOk style form=true∧0≤n∧a≤b.size∧z=((a+preS style form:Nat):Int)∧a+preS style form≤b.size∧z29 style form n=(b.extract a (a+preS style form),0):=by
 unfold z1s at h
 cases hk:(preOk style form&&decide (0≤(a:Int)∧(a:Int)≤(b.size:Int))) with
 |false=>rw[hk] at h;cases h
 |true=>
  rw[hk,zC,Int.toNat_natCast] at h
  rw[Bool.and_eq_true,decide_eq_true_eq] at hk
  split at h
  ·cases h
  ·rename_i hs
   split at h
   ·rename_i m hm
    cases h
    obtain⟨c1,c2⟩:=z13w hk.1 hm (z4v (by omega))
    exact⟨hk.1,c2,by omega,rfl,by omega,c1⟩
   ·cases h
theorem z1d0{style:Int}{s:Spec}{t:ByteArray}(ht:t.size≤1099511627776)(hv:valC s t=0):conG (howC style s.2.1) (conC (howC style s.2.1) t) t.size= .inr t∧(conC (howC style s.2.1) t).size=sizC (howC style s.2.1) t.size:=by
 obtain⟨v1,v2,v3,v4,v5⟩:=(z4a s t ht).1 hv
 have hk:=z7i v1
 unfold conG conC sizC
 rcases zf4 style s.2.1 with hh|hh|hh<;>rw[hh]<;>simp only[Int.reduceEq,if_true,if_false]
 ·exact⟨trivial,trivial⟩
 ·have hc:=how_1 hh
  rw[hc.2,zu1] at v4
  rw[zlk (by omega) v4]
  exact⟨rfl,z4o (by omega) v4⟩
 ·rw[zz9]
  exact⟨rfl,z4q t⟩
theorem z180{style:Int}{s:Spec}{c t:ByteArray}{n:Nat}(hc:c.size=sizC (howC style s.2.1) n)(hn:n≤999)(h:conG (howC style s.2.1) c n= .inr t):conC (howC style s.2.1) t=c∧t.size=n:=by
 unfold conG at h
 unfold sizC at hc
 unfold conC
 rcases zf4 style s.2.1 with hh|hh|hh<;>rw[hh] at h hc⊢ <;>simp only[Int.reduceEq,if_true,if_false] at h hc⊢
 ·injection h with h
  exact⟨h.symm,by rw[←h];exact hc⟩
 ·split at h
  case isFalse=>cases h
  rename_i he
  generalize hg:z1m c (n:Int)=g at h he
  obtain⟨t',e,i⟩:=g
  dsimp only at h he
  subst he
  injection h with h
  subst h
  obtain⟨a1,a2,a3⟩:=zef hg (by omega)
  exact⟨by rw[a1],by omega⟩
 ·split at h
  case isFalse=>cases h
  rename_i he
  generalize hg:z28 c=g at h he
  obtain⟨t',i,ok⟩:=g
  dsimp only at h he
  subst he
  injection h with h
  subst h
  obtain⟨a1,a2⟩:=zf3 hg
  exact⟨a1,by omega⟩
theorem z1ed{n:Nat}{form:Int}(hf:form=2∨form=3)(h2:form=2→n≤99)(h3:n≤999):n/10^form.toNat=0:=by
 rcases hf with rfl|rfl
 ·show n/100=0
  have:=h2 rfl
  omega
 ·show n/1000=0
  omega
theorem z17x{style:Int}{s:Spec}{t:ByteArray}(hs:style=1∨style=2)(ht:t.size≤1099511627776)(hv:valC s t=0)(x y:ByteArray):z23 style s (x++(z2g style s t).1++y) x.size=(t,((x.size+(z2g style s t).1.size:Nat):Int),0):=by
 obtain⟨v1,v2,v3,v4,v5⟩:=(z4a s t ht).1 hv
 obtain⟨k1,k2,k3,k4,k5,k6,k7,k8,k9⟩:=z7i v1
 obtain⟨c1,c2⟩:=z1d0 (style:=style) ht hv
 have hP:(z2g style s t).1=preC style s.2.2.1 t.size++conC (howC style s.2.1) t:=by
  unfold z2g
  rw[if_neg (fun h=>h hs),if_neg (fun h=>h hv)]
 rw[hP]
 generalize hC:conC (howC style s.2.1) t=C at c1 c2
 have body:∀(p:ByteArray),z2i (howC style s.2.1) s (p++C++y) t.size p.size=(t,((p.size+C.size:Nat):Int),0):=fun p=>by
  unfold z2i
  rw[←c2,if_neg (by rw[zu,zu];omega),zk3,c1]
  show(if valC s t=0 then _ else _)=_
  rw[if_pos hv]
 unfold z23
 rw[if_pos ⟨hs,v1,by omega,by simp only[zu];omega⟩]
 unfold zol
 by_cases hf:s.2.2.1=1
 ·have hp:preC style s.2.2.1 t.size=bs []:=by unfold preC;rw[if_pos hf]
  rw[if_pos hf,hp,zoj]
  have hn:s.2.2.2.1.toNat=t.size:=by have:=k9 hf;omega
  rw[hn,Int.toNat_natCast]
  exact body x
 ·rw[if_neg hf]
  have hp:preC style s.2.2.1 t.size=(z29 style s.2.2.1 t.size).1:=by unfold preC;rw[if_neg hf]
  have hok:preOk style s.2.2.1=true:=zfd.2 ⟨hs,by omega⟩
  have hb:=z1ee hok (n:=t.size) (z1ed (by omega) (fun e=>by have:=k8 e;omega) (by omega)) x (C++y)
  have hassoc:x++(preC style s.2.2.1 t.size++C)++y=x++(z29 style s.2.2.1 t.size).1++(C++y):=by rw[hp];simp [ByteArray.append_assoc]
  have hassoc2:x++(z29 style s.2.2.1 t.size).1++(C++y)=(x++(z29 style s.2.2.1 t.size).1)++C++y:=by simp [ByteArray.append_assoc]
  rw[hassoc,hb]
  dsimp only
  rw[if_neg (fun h=>h rfl),if_neg (by omega)]
  unfold cellW
  dsimp only
  rw[Int.toNat_natCast,Int.toNat_natCast,hassoc2]
  have:=body (x++(z29 style s.2.2.1 t.size).1)
  rw[zu] at this
  rw[this,hp,zu,Nat.add_assoc]
theorem zaz{style z:Int}{s:Spec}{b t:ByteArray}{a:Nat}(hb:b.size≤1099511627776)(h:z23 style s b a=(t,z,0)):(style=1∨style=2)∧valC s t=0∧(a:Int)≤z∧z≤b.size∧t.size≤999∧(z2g style s t).1=b.extract a z.toNat:=by
 unfold z23 at h
 split at h
 case isFalse=>cases h
 rename_i hc
 obtain⟨hs,v1,ha0,ha1⟩:=hc
 obtain⟨k1,k2,k3,k4,k5,k6,k7,k8,k9⟩:=z7i v1
 have body:∀(n p:Nat),n≤999→z2i (howC style s.2.1) s b n p=(t,z,0)→valC s t=0∧z=((p+sizC (howC style s.2.1) n:Nat):Int)∧p+sizC (howC style s.2.1) n≤b.size∧t.size=n∧conC (howC style s.2.1) t=b.extract p (p+sizC (howC style s.2.1) n):=by
  intro n p hn h
  unfold z2i at h
  split at h
  ·cases h
  ·rename_i hlt
   cases hg:conG (howC style s.2.1) (b.extract p (p+sizC (howC style s.2.1) n)) (n:Int) with
   |inl e=>
    rw[hg] at h
    replace h:(bs [],(0:Int),e)=(t,z,0):=h
    injection h with _ h
    injection h with _ h
    exfalso
    subst h
    unfold conG at hg
    split at hg
    ·split at hg
     ·cases hg
     ·rename_i hne
      injection hg with hg
      exact hne hg
    ·split at hg
     ·split at hg<;>cases hg
     ·cases hg
   |inr t'=>
    rw[hg] at h
    replace h:(if valC s t'=0 then(t',((p+sizC (howC style s.2.1) n:Nat):Int),(0:Int)) else(bs [],0,valC s t'))=(t,z,0):=h
    split at h
    ·rename_i hv
     cases h
     obtain⟨c1,c2⟩:=z180 (z4v (by omega)) hn hg
     exact⟨hv,rfl,by omega,c2,c1⟩
    ·rename_i hv
     injection h with _ h
     injection h with _ h
     exact absurd h hv
 have fin:valC s t=0→(z2g style s t).1=preC style s.2.2.1 t.size++conC (howC style s.2.1) t:=fun hv=>by
  unfold z2g
  rw[if_neg (fun h=>h hs),if_neg (fun h=>h hv)]
 unfold zol at h
 by_cases hf:s.2.2.1=1
 ·rw[if_pos hf] at h
  obtain⟨b1,b2,b3,b4,b5⟩:=body _ _ (by omega) h
  rw[Int.toNat_natCast] at b2 b3 b5
  refine⟨hs,b1,by omega,by omega,by omega,?_⟩
  rw[fin b1,b5,b2,Int.toNat_natCast]
  unfold preC
  rw[if_pos hf,zoj]
 ·rw[if_neg hf] at h
  split at h
  ·rename_i he
   unfold cellW at h
   injection h with _ h
   injection h with _ h
   exact absurd h he
  ·rename_i he
   split at h
   ·cases h
   ·rename_i hr
    generalize hg:z1s style s.2.2.1 b (a:Int)=g at h he hr
    obtain⟨n,z',e⟩:=g
    dsimp only at h he hr
    have he:e=0:=by
     by_cases e0:e=0
     ·exact e0
     ·exact absurd e0 he
    subst he
    obtain⟨q1,q2,q3,q4,q5,q6⟩:=z19l hg
    obtain⟨b1,b2,b3,b4,b5⟩:=body _ _ (by omega) h
    dsimp only at b2 b3 b5
    subst q4
    rw[Int.toNat_natCast] at b2 b3 b5
    refine⟨hs,b1,by omega,by omega,by omega,?_⟩
    rw[fin b1,b5,b2,Int.toNat_natCast]
    have hpc:preC style s.2.2.1 t.size=b.extract a (a+preS style s.2.2.1):=by
     unfold preC
     rw[if_neg hf,b4,Int.toNat_of_nonneg q2,q6]
    rw[hpc,zac _ (by omega) (by omega)]
end Groat

namespace Groat
open Go.IntKind renaming wrap→zW,i64→zI,u8→zU
open Go Go.Ref
def valF(n:Nat)(l:List Int):Nat:=l.foldl (fun n c=>n*256+c.toNat) n
def valB(l:List Int):Nat:=valF 0 l
def byB(x:Nat):List Int:=[((x/72057594037927936 % 256:Nat):Int),((x/281474976710656 % 256:Nat):Int),((x/1099511627776 % 256:Nat):Int),((x/4294967296 % 256:Nat):Int),((x/16777216 % 256:Nat):Int),((x/65536 % 256:Nat):Int),((x/256 % 256:Nat):Int),((x % 256:Nat):Int)]
theorem za8{x:Nat}(h:x<18446744073709551616):valB (byB x)=x:=by
 simp only[valB,valF,byB,List.foldl,Int.toNat_natCast]
 omega
theorem eight{l:List Int}(h:l.length=8):∃a b c d e f g i,l=[a,b,c,d,e,f,g,i]:=by
 match l,h with
 | [a,b,c,d,e,f,g,i],_=>exact⟨a,b,c,d,e,f,g,i,rfl⟩
def zei:Nat→Nat→List Int
 |0,_=>[]
 |m+1,x=>zei m (x/256)++ [((x % 256:Nat):Int)]
theorem z1ad(l:List Int)(n:Nat)(c:Int):valF n (l++ [c])=valF n l*256+c.toNat:=by
 unfold valF;rw[List.foldl_append];rfl
theorem zok:∀(m:Nat) (l:List Int),l.length=m→(∀y∈l,zn y)→zei m (valB l)=l∧valB l<256^m
 |0,l,h,_=>by
  have:=List.length_eq_zero_iff.1 h
  subst this
  exact⟨rfl,by decide⟩
 |m+1,l,h,hb=>by
  obtain⟨q,c,rfl⟩:∃q c,l=q++ [c]:=by
   rcases List.eq_nil_or_concat l with e|⟨q,c,e⟩
   ·rw[e] at h;cases h
   ·exact⟨q,c,by rw[e,List.concat_eq_append]⟩
  obtain⟨i1,i2⟩:=zok m q (by rw[List.length_append,List.length_singleton] at h;omega) fun y hy=>hb y (List.mem_append_left _ hy)
  have hc:=hb c (List.mem_append_right _ (by simp))
  unfold zn at hc
  unfold valB at i1 i2⊢
  rw[z1ad]
  generalize valF 0 q=v at i1 i2
  refine⟨?_,by rw[Nat.pow_succ];omega⟩
  rw[zei,show(v*256+c.toNat)/256=v by omega,i1,show(v*256+c.toNat)% 256=c.toNat by omega,Int.toNat_of_nonneg hc.1]
theorem byB_N(x:Nat):byB x=zei 8 x:=by
 simp only[zei,byB,Nat.div_div_eq_div_mul,List.nil_append,List.cons_append]
theorem zal{l:List Int}(h:l.length=8)(hb:∀y∈l,zn y):byB (valB l)=l∧valB l<18446744073709551616:=by
 obtain⟨h1,h2⟩:=zok 8 l h hb
 rw[byB_N]
 exact⟨h1,by rw[show(256:Nat)^8=18446744073709551616 from by decide] at h2;exact h2⟩
theorem zls(x:Nat):∀y∈byB x,zn y:=by
 intro y hy
 unfold byB at hy
 simp only[List.mem_cons,List.not_mem_nil,or_false] at hy
 unfold zn
 omega
theorem z11z(x:Nat):(byB x).length=8:=rfl
theorem zay{x:Nat}(hx:x<18446744073709551616):byB x=[0,0,0,0,0,0,0,0]↔x=0:=by
 constructor
 ·intro h
  have:=za8 hx
  rw[h] at this
  rw[←this];rfl
 ·rintro rfl;rfl
theorem z1km(n:Nat):zW zU (n:Int)=((n % 256:Nat):Int):=by
 simp [IntKind.wrap,IntKind.signed,IntKind.bits]
theorem z2o(k x:Nat)(j:Nat)(hj:j<8)(p q:List Int):Q8_l0 (k+1) (x:Int) (j:Int) p q=Q8_l0 k (x:Int) ((j+1:Nat):Int) p (q.set j ((x/2^(8*(7-j))% 256:Nat):Int)):=by
 have e1:zW zI ((7:Int)-(j:Int))=((7-j:Nat):Int):=by rw[zi (by omega) (by omega)];omega
 have e2:zW zI ((8:Int)*((7-j:Nat):Int))=((8*(7-j):Nat):Int):=by rw[zi (by omega) (by omega)];omega
 conv=>lhs;unfold Q8_l0 Q8_s1
 rw[zT (by omega),zC,e1,e2,zF (by omega),zD,zj hj,z7x x _ (by omega),z1km,z18 (by omega),Int.toNat_natCast]
theorem z17u(k x:Nat)(p q:List Int):Q8_l0 (k+1) (x:Int) ((8:Nat):Int) p q=some (p,q):=by
 unfold Q8_l0 Q8_s1
 rw[zF (by omega)];rfl
theorem zlt(x:Nat):Q8 (x:Int)=some (byB x):=by
 obtain⟨k,hk⟩:∃k,FUEL=k+9:=⟨FUEL-9,by rw[z14]⟩
 unfold Q8 Q8_s0
 dsimp only
 rw[hk,show(0:Int)=((0:Nat):Int) from rfl,z2o _ x 0 (by decide),z2o _ x 1 (by decide),z2o _ x 2 (by decide),z2o _ x 3 (by decide),z2o _ x 4 (by decide),z2o _ x 5 (by decide),z2o _ x 6 (by decide),z2o _ x 7 (by decide),z17u,zc]
 unfold Q8_s2 byB
 simp
theorem z1ke{n c:Nat}(hc:c<256):n*256|||c=n*256+c:=by
 have:=Nat.two_pow_add_eq_or_of_lt (i:=8) (b:=c) hc n
 rw[show(2:Nat)^8=256 from rfl,Nat.mul_comm 256 n] at this
 exact this.symm
theorem zv6(l:List Int)(hl:l.length=8)(hb:∀y∈l,zn y):∀(m j k n:Nat),j+m=8→m<k→n<256^j→Q7_l0 k (n:Int) l (j:Int)=some ((valF n (l.drop j):Nat):Int)
 |m,j,0,n,_,hk,_=>by omega
 |0,j,k+1,n,hj,hk,_=>by
  unfold Q7_l0 Q7_s1
  rw[zF (by omega),zD,List.drop_eq_nil_of_le (by omega)];rfl
 |m+1,j,k+1,n,hj,hk,hn=>by
  have hlt:j<l.length:=by omega
  have hc:=hb _ (List.getElem_mem hlt)
  unfold zn at hc
  have hg:l.getD j 0=l[j]:=by rw[List.getD_eq_getElem?_getD,List.getElem?_eq_getElem hlt];rfl
  have hp:(256:Nat)^j≤256^7:=Nat.pow_le_pow_right (by decide) (by omega)
  have hp7:(256:Nat)^7=72057594037927936:=by decide
  obtain⟨c,hcc⟩:∃c:Nat,l[j]=(c:Int):=⟨l[j].toNat,by omega⟩
  unfold Q7_l0 Q7_s1
  rw[zT (by omega),zC,zj (by omega),Int.toNat_natCast,hg,hcc,z18 (by omega)]
  have e1:IntKind.u64.wrap ((n:Int)*2^min ((8:Int)).toNat 64)=((n*256:Nat):Int):=by
   have:((n:Int)*2^min ((8:Int)).toNat 64)=((n*256:Nat):Int):=by
    rw[show min ((8:Int)).toNat 64=8 from rfl,show(2:Int)^8=256 from by decide];omega
   rw[this];exact z7j (by omega)
  rw[e1,z7j (by omega),or64 (by omega) (by omega),z1ke (by omega)]
  dsimp only
  have hnext:n*256+c<256^(j+1):=by rw[Nat.pow_succ];omega
  rw[zv6 l hl hb m (j+1) k _ (by omega) (by omega) hnext,List.drop_eq_getElem_cons hlt,hcc]
  rfl
theorem z11x(l:List Int)(hl:l.length=8)(hb:∀y∈l,zn y):Q7 l=some ((valB l:Nat):Int):=by
 unfold Q7 Q7_s0
 have:=zv6 l hl hb 8 0 FUEL 0 (by omega) (by rw[z14];omega) (by decide)
 rw[show((0:Nat):Int)=0 from rfl,List.drop_zero] at this
 dsimp only
 rw[this];rfl
def szM(style:Int):Nat:=if style=1 then 16 else 8
def bmT(style:Int)(b:ByteArray)(a:Nat):Sum Int Nat:=
 if b.size<a+szM style then .inl 2 else if style=1 then(if(z28 (b.extract a (a+szM style))).2.2=true then .inr (valB (bl (z28 (b.extract a (a+szM style))).1)) else .inl 3) else .inr (valB (bl (b.extract a (a+szM style))))
def takeR(a:Nat)(style:Int):Sum Int Nat→List Int×Int×Int
 | .inl e=>(List.replicate 8 0,0,e)
 | .inr x=>(byB x,((a+szM style:Nat):Int),0)
theorem copy8{t:ByteArray}(h:t.size=8):putL (List.replicate 8 (0:Int)) (List.take 8 (z2k t)) 0=byB (valB (bl t)):=by
 have hl:(bl t).length=8:=by rw[zg];exact h
 rw[(zal hl fun y hy=>z1p hy).1]
 have hbt:z2k t=bl t:=rfl
 rw[hbt]
 obtain⟨a,b,c,d,e,f,g,i,hq⟩:=eight hl
 rw[hq]
 rfl
theorem hex16{s t:ByteArray}{i:Int}(h:z28 s=(t,i,true))(hs:s.size=16):t.size=8:=by have:=(zf3 h).2;omega
theorem z12s(style:Int)(b:ByteArray)(a:Nat)(hb:b.size≤1099511627776)(ha:a≤b.size)(hs:style=1∨style=2):Q10 style b a=some (takeR a style (bmT style b a)):=by
 have w0:zW zI ((b.size:Int)-(a:Int))=(b.size:Int)-a:=zi (by omega) (by omega)
 have w8:zW zI ((a:Int)+8)=((a+8:Nat):Int):=by rw[zi (by omega) (by omega)];omega
 have w16:zW zI ((a:Int)+16)=((a+16:Nat):Int):=by rw[zi (by omega) (by omega)];omega
 have wm:zW zI ((8:Int)*2)=16:=by decide
 unfold Q10 zmf bmT szM
 rcases hs with rfl|rfl
 ·simp only[Int.reduceEq,decide_true,zC,wm,w0,w16,if_true,Int.toNat_natCast]
  split
  ·rename_i hc
   rw[zT (by omega)];rfl
  ·rename_i hc
   rw[zF (by omega),zD,zT (by omega),zC,zT (by omega),zC,zT (by omega),zC,zT (by omega),zC,zp2 _ (by rw[ByteArray.size_extract];omega),zc]
   generalize hg:z28 (b.extract a (a+16))=g
   obtain⟨t,i,ok⟩:=g
   cases ok with
   |false=>rfl
   |true=>
    have ht:=hex16 hg (z4v (by omega))
    dsimp only
    rw[Bool.not_true,zD,if_pos rfl,copy8 ht]
    rfl
 ·simp only[Int.reduceEq,decide_false,zD,w0,w8,if_false,Int.toNat_natCast]
  split
  ·rename_i hc
   rw[zT (by omega)];rfl
  ·rename_i hc
   rw[zF (by omega),zD,zT (by omega),zC,zT (by omega),zC,zT (by omega),zC,zT (by omega),zC,copy8 (z4v (by omega))]
   rfl
theorem zyk{style:Int}{b:ByteArray}{a x:Nat}(hs:style=1∨style=2)(h:bmT style b a= .inr x):x<18446744073709551616∧a+szM style≤b.size:=by
 unfold bmT szM at h
 unfold szM
 rcases hs with rfl|rfl
 ·simp only[if_true] at h⊢
  split at h
  ·cases h
  ·split at h
   case isFalse=>cases h
   rename_i hc ho
   injection h with h
   generalize hg:z28 (b.extract a (a+16))=g at h ho
   obtain⟨t,i,ok⟩:=g
   dsimp only at h ho
   subst ho
   have ht:=hex16 hg (z4v (by omega))
   rw[←h]
   exact⟨(zal (by rw[zg];exact ht) fun y hy=>z1p hy).2,by omega⟩
 ·simp only[Int.reduceEq,if_false] at h⊢
  split at h
  ·cases h
  ·injection h with h
   rw[←h]
   exact⟨(zal (by rw[zg];exact z4v (by omega)) fun y hy=>z1p hy).2,by omega⟩
def bm0(e:Int):Nat×Nat×Int×Int:=(0,0,0,e)
def bmGet(style:Int)(b:ByteArray)(at_:Int):Nat×Nat×Int×Int:=
 if(style=1∨style=2)∧0≤at_∧at_≤b.size then
  match bmT style b at_.toNat with
  | .inl e=>bm0 e
  | .inr x=>if x<9223372036854775808 then(x,0,((at_.toNat+szM style:Nat):Int),0) else
    match bmT style b (at_.toNat+szM style) with
    | .inl e=>bm0 e
    | .inr y=>if y=0 then bm0 8 else(x-9223372036854775808,y,((at_.toNat+szM style+szM style:Nat):Int),0)
 else bm0 1
def bmR(r:Nat×Nat×Int×Int):FSet×Int×Int:=(((r.1:Int),(r.2.1:Int),()),r.2.2.1,r.2.2.2)
theorem z1hz{x:Nat}(hx:x<18446744073709551616):decide (ibits .and .u64 (x:Int) (9223372036854775808:Int)=0)=decide (x<9223372036854775808):=by
 rw[show(9223372036854775808:Int)=((9223372036854775808:Nat):Int) from rfl,and64 hx (by decide)]
 apply decide_eq_decide.2
 have h:=z7r x 63
 rw[show(2:Nat)^63=9223372036854775808 from by decide] at h
 constructor
 ·intro e
  have e:x&&&9223372036854775808=0:=by omega
  have:=h.1 e
  rcases Nat.lt_or_ge x 9223372036854775808 with h1|h1
  ·exact h1
  ·have h2:x.testBit 63=true:=by
    rw[Nat.testBit_eq_decide_div_mod_eq]
    exact zT (by omega)
   rw[h2] at this;cases this
 ·intro e
  have:x.testBit 63=false:=Nat.testBit_lt_two_pow (by rw[show(2:Nat)^63=9223372036854775808 from by decide];exact e)
  have:=h.2 this
  omega
theorem z1i0{x:Nat}(hx:x<18446744073709551616)(h:¬x<9223372036854775808):ibits .andNot .u64 (x:Int) (9223372036854775808:Int)=((x-9223372036854775808:Nat):Int):=by
 rw[show(9223372036854775808:Int)=((9223372036854775808:Nat):Int) from rfl,z1cl hx (by decide)]
 have:x&&&(18446744073709551615-9223372036854775808)=x-9223372036854775808:=by
  have:=Nat.and_two_pow_sub_one_eq_mod x 63
  rw[show(2:Nat)^63-1=18446744073709551615-9223372036854775808 from by decide,show(2:Nat)^63=9223372036854775808 from by decide] at this
  omega
 rw[this]
theorem z1cs(style:Int)(b:ByteArray)(at_:Int)(hb:b.size≤1099511627776):Q5 style b at_=some (bmR (bmGet style b at_)):=by
 have hk:Q9 style=some (decide (style=1∨style=2)):=by
  unfold Q9 Q9_s0
  by_cases h1:style=1
  ·rw[zT (p:=style=1∨style=2) (.inl h1),zT h1];rfl
  ·rw[zF h1,zD]
   by_cases h2:style=2
   ·rw[zT (p:=style=1∨style=2) (.inr h2),zT h2]
   ·rw[zF (p:=style=1∨style=2) (fun h=>h.elim h1 h2),zF h2]
 unfold Q5 Q5_s0 bmGet
 rw[hk,zc]
 by_cases h1:style=1∨style=2
 case neg=>rw[zF h1,if_neg (fun h=>h1 h.1)];rfl
 rw[zT h1,Bool.not_true,zD]
 by_cases h3:at_<0
 ·rw[zT h3,if_neg (fun h=>by omega)];rfl
 rw[zF h3,zD]
 by_cases h4:(b.size:Int)<at_
 ·rw[zT h4,if_neg (fun h=>by omega)];rfl
 rw[zF h4,zD,if_pos ⟨h1,by omega,by omega⟩]
 obtain⟨m,rfl⟩:∃m:Nat,at_=m:=⟨at_.toNat,by omega⟩
 rw[Int.toNat_natCast,z12s style b m hb (by omega) h1,zc]
 cases hT:bmT style b m with
 |inl e=>
  have he:¬e=0:=by
   unfold bmT at hT
   split at hT
   ·cases hT;decide
   ·split at hT
    ·split at hT
     ·cases hT
     ·cases hT;decide
    ·cases hT
  show(bif(!(decide (e=0))) then _ else _)=_
  rw[zF he];rfl
 |inr x=>
  obtain⟨hx,hsz⟩:=zyk h1 hT
  show(bif(!(decide ((0:Int)=0))) then _ else(Q7 (byB x)).bind _)=_
  rw[zT rfl,Bool.not_true,zD,z11x _ (z11z x) (zls x),zc,za8 hx,z1hz hx]
  by_cases hlt:x<9223372036854775808
  ·rw[zT hlt,zC]
   dsimp only
   rw[if_pos hlt];rfl
  ·rw[zF hlt,zD]
   dsimp only[takeR]
   rw[z12s style b (m+szM style) hb (by omega) h1,zc,if_neg hlt]
   cases hU:bmT style b (m+szM style) with
   |inl e=>
    have he:¬e=0:=by
     unfold bmT at hU
     split at hU
     ·cases hU;decide
     ·split at hU
      ·split at hU
       ·cases hU
       ·cases hU;decide
      ·cases hU
    show(bif(!(decide (e=0))) then _ else _)=_
    rw[zF he];rfl
   |inr y=>
    obtain⟨hy,hsy⟩:=zyk h1 hU
    rw[show takeR (m+szM style) style (.inr y)=(byB y,((m+szM style+szM style:Nat):Int),(0:Int)) from rfl]
    dsimp only
    rw[zT rfl,Bool.not_true,zD]
    by_cases hz:y=0
    ·rw[zT ((zay hy).2 hz),zC]
     rw[if_pos hz];rfl
    ·rw[zF (fun h=>hz ((zay hy).1 h)),zD,z11x _ (z11z y) (zls y),zc,za8 hy,z1i0 hx hlt]
     rw[if_neg hz];rfl
end Groat

namespace Groat
open Go.IntKind renaming wrap→zW,i64→zI,u8→zU
open Go Go.Ref
def encS(style:Int)(t:ByteArray):ByteArray:=if style=1 then z3i t else t
def wB(x:Nat):ByteArray:=strOf (byB x)
theorem wB_bl(x:Nat):bl (wB x)=byB x:=z21 (zls x)
theorem z68(x:Nat):(wB x).size=8:=by unfold wB;rw[z1z];rfl
theorem z3m{style:Int}(x:Nat):(encS style (wB x)).size=szM style:=by
 unfold encS szM
 split
 ·rw[z4q,z68]
 ·exact z68 x
def bmPut(style:Int)(h l:Nat):ByteArray×Int:=
 if(style=1∨style=2)∧h<9223372036854775808 then((if l=0 then encS style (wB h) else encS style (wB (h+9223372036854775808))++encS style (wB l)),0) else(bs [],1)
theorem zkp:∀a b:List Int,hexP (a++b)=hexP a++hexP b
 | [],b=>rfl
 |x::r,b=>by rw[List.cons_append,hexP,hexP,zkp r b];rfl
theorem zx8(a b:ByteArray):z3i (a++b)=z3i a++z3i b:=by
 unfold z3i
 rw[z3l,zkp,z107]
theorem z111(style:Int)(a b:ByteArray):encS style (a++b)=encS style a++encS style b:=by
 unfold encS
 split
 ·exact zx8 a b
 ·rfl
theorem z128{h l:Nat}(hh:h<B64):hasN h l 1= !decide (h<9223372036854775808):=by
 have e:hasN h l 1=h.testBit 63:=by
  unfold hasN
  rw[if_pos (by decide)];rfl
 rw[e]
 rcases Nat.lt_or_ge h 9223372036854775808 with h1|h1
 ·rw[zT h1]
  exact Nat.testBit_lt_two_pow (by rw[show(2:Nat)^63=9223372036854775808 from by decide];exact h1)
 ·rw[zF (by omega),Nat.testBit_eq_decide_div_mod_eq]
  have hh:h<18446744073709551616:=hh
  exact zT (by omega)
theorem z1kf{h:Nat}(hh:h<9223372036854775808):h|||9223372036854775808=h+9223372036854775808:=by
 have:=Nat.two_pow_add_eq_or_of_lt (i:=63) (b:=h) (by rw[show(2:Nat)^63=9223372036854775808 from by decide];exact hh) 1
 rw[show(2:Nat)^63=9223372036854775808 from by decide,Nat.mul_one] at this
 rw[Nat.or_comm,←this,Nat.add_comm]
theorem zu3(x:ByteArray):x++bs []=x:=by
 apply ByteArray.ext
 simp [ByteArray.data_append,bs]
theorem z1cu(style:Int)(h l:Nat)(hh:h<B64)(hl:l<B64):Q6 style ((h:Int),(l:Int),())=some (bmPut style h l):=by
 have hk:Q9 style=some (decide (style=1∨style=2)):=by
  unfold Q9 Q9_s0
  by_cases h1:style=1
  ·rw[zT (p:=style=1∨style=2) (.inl h1),zT h1];rfl
  ·rw[zF h1,zD]
   by_cases h2:style=2
   ·rw[zT (p:=style=1∨style=2) (.inr h2),zT h2]
   ·rw[zF (p:=style=1∨style=2) (fun h=>h.elim h1 h2),zF h2]
 unfold Q6 Q6_s0 bmPut
 rw[hk,zc]
 by_cases h1:style=1∨style=2
 case neg=>rw[zF h1,if_neg (fun h=>h1 h.1)];rfl
 rw[zT h1,Bool.not_true,zD,z1i3 h l hh hl,zc,z128 hh]
 by_cases h2:h<9223372036854775808
 case neg=>rw[zF h2,if_neg (fun h=>h2 h.2)];rfl
 rw[zT h2,Bool.not_true,zD,if_pos ⟨h1,h2⟩]
 have hH:Q36 ((h:Int),(l:Int),())=some ((h:Int),(l:Int)):=rfl
 rw[hH,zc]
 dsimp only
 rw[zlt,zc]
 have z8:∀x:Nat,Nat.beq 8 (List.length (byB x))=true:=fun x=>rfl
 have fin:∀t:ByteArray,t.size≤16→(bif decide (style=1) then(Q160 t).bind fun r6=>some (r6,(0:Int)) else some (t,0))=some (encS style t,0):=fun t ht=>by
  unfold encS
  by_cases hs:style=1
  ·rw[zT hs,zC,zp3 t (by omega),if_pos hs];rfl
  ·rw[zF hs,if_neg hs];rfl
 by_cases hz:l=0
 ·rw[zT ((zay hl).2 hz),if_pos hz,Bool.not_true,zD,zlt,zc,z8,zC]
  have hsz:(strOf (byB h)).size=8:=z68 h
  rw[zT (by rw[hsz];decide),zC,zu3]
  exact fin (wB h) (by rw[z68];decide)
 ·have hor:ibits .or .u64 (h:Int) (9223372036854775808:Int)=((h+9223372036854775808:Nat):Int):=by
   rw[show(9223372036854775808:Int)=((9223372036854775808:Nat):Int) from rfl,or64 hh (by decide),z1kf h2]
  rw[zF (fun e=>hz ((zay hl).1 e)),if_neg hz,Bool.not_false,zC,z8,zC,hor,zlt,zc,z8,zC]
  have hsz:∀x,(strOf (byB x)).size=8:=fun x=>z68 x
  rw[zT (by rw[hsz,hsz];decide),zC,←z111]
  exact fin (wB _++wB l) (by rw[zu,z68,z68];decide)
theorem z1hk(b:ByteArray){a:Nat}{style:Int}(h:a+szM style≤b.size):(b.extract a (a+szM style)).size=szM style:=z4v h
theorem zlr{style:Int}{v:Nat}(hs:style=1∨style=2)(hv:v<18446744073709551616)(x y:ByteArray):bmT style (x++encS style (wB v)++y) x.size= .inr v:=by
 have hz:=z3m (style:=style) v
 unfold bmT
 rw[if_neg (by rw[zu,zu];omega),←hz,zk3]
 rcases hs with rfl|rfl
 ·rw[if_pos rfl]
  unfold encS
  rw[if_pos rfl,zz9]
  dsimp only
  rw[if_pos rfl,wB_bl,za8 hv]
 ·rw[if_neg (by decide)]
  unfold encS
  rw[if_neg (by decide),wB_bl,za8 hv]
theorem zv7{style:Int}{b:ByteArray}{a v:Nat}(hs:style=1∨style=2)(h:bmT style b a= .inr v):encS style (wB v)=b.extract a (a+szM style)∧v<18446744073709551616∧a+szM style≤b.size:=by
 obtain⟨h1,h2⟩:=zyk hs h
 refine⟨?_,h1,h2⟩
 have hz:=z1hk b h2
 unfold bmT at h
 rw[if_neg (by omega)] at h
 unfold encS wB
 rcases hs with rfl|rfl
 ·rw[if_pos rfl] at h⊢
  split at h
  case isFalse=>cases h
  rename_i ho
  generalize hg:z28 (b.extract a (a+szM 1))=g at h ho
  obtain⟨t,i,ok⟩:=g
  dsimp only at h ho
  subst ho
  injection h with h
  have ht:=hex16 hg hz
  obtain⟨e1,_⟩:=zal (l:=bl t) (by rw[zg];exact ht) fun y hy=>z1p hy
  rw[←h,e1,z3f,(zf3 hg).1]
 ·rw[if_neg (by decide)] at h⊢
  injection h with h
  obtain⟨e1,_⟩:=zal (l:=bl (b.extract a (a+szM 2))) (by rw[zg];exact hz) fun y hy=>z1p hy
  rw[←h,e1,z3f]
theorem zlq{style:Int}{h l:Nat}(hs:style=1∨style=2)(hh:h<9223372036854775808):bmPut style h l=((if l=0 then encS style (wB h) else encS style (wB (h+9223372036854775808))++encS style (wB l)),0):=by
 unfold bmPut
 rw[if_pos ⟨hs,hh⟩]
theorem z1h5{style:Int}{h l:Nat}(hs:style=1∨style=2)(hh:h<9223372036854775808)(hl:l<18446744073709551616)(x y:ByteArray):bmGet style (x++(bmPut style h l).1++y) x.size=(h,l,((x.size+(bmPut style h l).1.size:Nat):Int),0):=by
 rw[zlq hs hh]
 dsimp only
 unfold bmGet
 rw[if_pos ⟨hs,by omega,by simp only[zu];omega⟩,Int.toNat_natCast]
 by_cases hz:l=0
 ·rw[if_pos hz,zlr hs (by omega) x y]
  dsimp only
  rw[if_pos hh,z3m,hz]
 ·rw[if_neg hz]
  have e1:x++(encS style (wB (h+9223372036854775808))++encS style (wB l))++y=x++encS style (wB (h+9223372036854775808))++(encS style (wB l)++y):=by simp [ByteArray.append_assoc]
  have e2:x++(encS style (wB (h+9223372036854775808))++encS style (wB l))++y=(x++encS style (wB (h+9223372036854775808)))++encS style (wB l)++y:=by simp [ByteArray.append_assoc]
  have t1:=zlr hs (v:=h+9223372036854775808) (by omega) x (encS style (wB l)++y)
  have t2:=zlr hs hl (x++encS style (wB (h+9223372036854775808))) y
  rw[←e1] at t1
  rw[←e2,zu,z3m] at t2
  rw[t1]
  dsimp only
  rw[if_neg (by omega),t2]
  dsimp only
  rw[if_neg hz,zu,z3m,z3m,show h+9223372036854775808-9223372036854775808=h by omega,Nat.add_assoc]
theorem zyl{style z:Int}{b:ByteArray}{a h l:Nat}(hg:bmGet style b a=(h,l,z,0)):(style=1∨style=2)∧h<9223372036854775808∧l<18446744073709551616∧(a:Int)≤z∧z≤b.size∧(bmPut style h l).1=b.extract a z.toNat:=by
 unfold bmGet at hg
 split at hg
 case isFalse=>cases hg
 rename_i hc
 obtain⟨hs,h0,h1⟩:=hc
 rw[Int.toNat_natCast] at hg
 cases hT:bmT style b a with
 |inl e=>
  exfalso
  rw[hT] at hg
  have he:e=0:=by
   have:=congrArg (fun r:Nat×Nat×Int×Int=>r.2.2.2) hg
   exact this
  subst he
  unfold bmT at hT
  split at hT
  ·cases hT
  ·split at hT
   ·split at hT<;>cases hT
   ·cases hT
 |inr x=>
  rw[hT] at hg
  obtain⟨e1,e2,e3⟩:=zv7 hs hT
  dsimp only at hg
  split at hg
  ·rename_i hlt
   injection hg with g1 g2
   injection g2 with g2 g3
   injection g3 with g3 _
   subst g1 g2 g3
   refine⟨hs,hlt,by decide,by omega,by omega,?_⟩
   rw[zlq hs hlt,if_pos rfl,e1,Int.toNat_natCast]
  ·rename_i hge
   cases hU:bmT style b (a+szM style) with
   |inl e=>
    exfalso
    rw[hU] at hg
    have he:e=0:=by
     have:=congrArg (fun r:Nat×Nat×Int×Int=>r.2.2.2) hg
     exact this
    subst he
    unfold bmT at hU
    split at hU
    ·cases hU
    ·split at hU
     ·split at hU<;>cases hU
     ·cases hU
   |inr y=>
    rw[hU] at hg
    obtain⟨f1,f2,f3⟩:=zv7 hs hU
    dsimp only at hg
    split at hg
    ·exfalso
     have:=congrArg (fun r:Nat×Nat×Int×Int=>r.2.2.2) hg
     cases this
    ·rename_i hz
     injection hg with g1 g2
     injection g2 with g2 g3
     injection g3 with g3 _
     subst g1 g2 g3
     refine⟨hs,by omega,f2,by omega,by omega,?_⟩
     rw[zlq hs (by omega),if_neg hz,show x-9223372036854775808+9223372036854775808=x by omega,e1,f1,Int.toNat_natCast]
     exact zac _ (by omega) (by omega)
end Groat

set_option maxRecDepth 10000
namespace Groat
open Go.IntKind renaming wrap→zW,i64→zI,u8→zU
open Go Go.Ref
theorem z17k{α:Type}{p:Prop}[Decidable p](h:p){x y:α}:(bif !decide p then x else y)=y:=by rw[zT h];rfl
theorem z17j{α:Type}{p:Prop}[Decidable p](h:¬p){x y:α}:(bif !decide p then x else y)=x:=by rw[zF h];rfl
end Groat

namespace Groat
open Go.IntKind renaming wrap→zW,i64→zI,u8→zU
open Go Go.Ref
theorem z1kd(l:List Int):decide ((1:Int)∈l)= !decide (setH l<9223372036854775808):=by
 rw[←z128 (l:=setL l) (z2u l),z66]
 unfold inR
 rw[zT (p:=(1:Int)≤1∧(1:Int)≤128) (by decide),Bool.and_true]
end Groat

namespace Groat
open Go.IntKind renaming wrap→zW,i64→zI,u8→zU
open Go Go.Ref
def z1c(m:ByteArray):Bool:=decide ((m.size:Int)=4)&&allD (bl m)
theorem z1q{m:ByteArray}:z1c m=true↔m.size=4∧allD (bl m)=true:=by
 unfold z1c
 rw[Bool.and_eq_true,decide_eq_true_eq]
 constructor<;>intro h<;>exact⟨by omega,h.2⟩
theorem z8w(m:ByteArray)(h:m.size≤maxLen):Q180 m=some (z1c m):=by
 unfold Q180 zhm z1c
 cases decide ((m.size:Int)=4) with
 |false=>rfl
 |true=>rw[zC,zm9 m h];rfl
theorem zop{m:ByteArray}(h:z1c m=true)(i:Nat)(hi:i<4):48≤ze m i∧ze m i≤57:=by
 obtain⟨h1,h2⟩:=z1q.1 h
 have hl:i<(bl m).length:=by rw[zg];omega
 have:=List.all_eq_true.1 h2 _ (List.getElem_mem hl)
 rw[z22,List.getD_eq_getElem?_getD,List.getElem?_eq_getElem hl]
 exact of_decide_eq_true this
def verM(m:ByteArray):Int:=bif z1c m then ze m 0-48 else 0
def reqM(m:ByteArray):Bool:=z1c m&&(decide (ze m 2=48)||decide (ze m 2=50))
theorem z6q(m:ByteArray)(h:m.size≤maxLen):Q181 m=some (verM m,z1c m):=by
 unfold Q181 zhn verM
 rw[z8w m h,Option.bind_some]
 cases hr:z1c m with
 |false=>rfl
 |true=>
  obtain⟨h1,_⟩:=z1q.1 hr
  have:=zop hr 0 (by omega)
  simp only[Bool.not_true,zD,zC]
  rw[zr (by omega) (by omega),show(0:Int).toNat=0 from rfl,u8_id (by omega) (by omega),zi (by omega) (by omega)]
theorem zao(m:ByteArray)(h:m.size≤maxLen):Q178 m=some (reqM m):=by
 unfold Q178 zhk reqM
 rw[z8w m h,Option.bind_some]
 cases hr:z1c m with
 |false=>rfl
 |true=>
  obtain⟨h1,_⟩:=z1q.1 hr
  rw[zC,zr (by omega) (by omega),zr (by omega) (by omega),show(2:Int).toNat=2 from rfl]
  cases decide (ze m 2=48)<;>rfl
def versM(m:ByteArray)(v:Int):Bool:=z1c m&&decide (ze m 0-48=v)
def z49(p:Pair)(a b:zf):Bool:=versM p.1 a.2.1&&(versM p.2.1 b.2.1&&(reqM p.1==reqM p.2.1))
theorem z1eu(p:Pair)(a b:zf)(h1:p.1.size≤maxLen)(h2:p.2.1.size≤maxLen):Q245 p a b=some (z49 p a b):=by
 unfold Q245 zjy z49 versM
 rw[z6q _ h1,z6q _ h2,zao _ h1,zao _ h2]
 simp only[Option.bind_some]
 unfold verM
 cases z1c p.1 with
 |false=>rfl
 |true=>
  cases z1c p.2.1 with
  |false=>simp
  |true=>
   simp only[zC,Bool.true_and]
   cases decide (ze p.1 0-48=a.2.1) with
   |false=>rfl
   |true=>
    cases decide (ze p.2.1 0-48=b.2.1) with
    |false=>rfl
    |true=>rfl
end Groat

namespace Groat
open Go.IntKind renaming wrap→zW,i64→zI,u8→zU
open Go Go.Ref
abbrev Msg:=ByteArray×List Val×Unit
abbrev Fault:=Int×Int×Unit
abbrev vnil:Val:=(0,bs [],())
abbrev z13:Fault:=(0,0,())
structure MsgOk(m:Msg):Prop where
 mti:m.1.size≤9223372036854775807
 len:m.2.1.length≤1000000
 txt:∀v∈m.2.1,v.2.1.size≤1099511627776
def dropV(l:List Val)(no:Int):List Val:=l.filter fun v=> !decide (v.1=no)
theorem zvl(l:List Val)(no:Int):(dropV l no).length≤l.length:=List.length_filter_le _ _
theorem z8z(no:Int)(fin:Msg×Msg→Option (Msg×Msg)):∀(l:List Val) (i:Int) (s:Msg×Msg),s.2.2.1.length+l.length≤1000000000→
 runI (fun i (x:Val) (s:Msg×Msg) K=>(bif(!(decide (x.1=no))) then(bif(decide ((s.2.2.1.length+(List.length ([x]:List Val)))*24≤140737488355328)) then K (s.1,(s.2.1,(s.2.2.1++([x]:List Val)),())) else none) else K s)) fin l i s=fin (s.1,(s.2.1,s.2.2.1++dropV l no,()))
 | [],i,s,_=>by
   show fin s=_
   simp [dropV]
 |x::r,i,s,h=>by
  simp only[List.length_cons] at h
  rw[runI]
  by_cases hx:x.1=no
  ·rw[zT hx,Bool.not_true,zD]
   refine(z8z no fin r (i+1) s (by omega)).trans ?_
   simp [dropV,hx]
  ·rw[zF hx,Bool.not_false,zC,zT (by simp only[List.length_singleton];omega),zC]
   refine(z8z no fin r (i+1) (s.1,(s.2.1,s.2.2.1++ [x],())) (by simp only[List.length_append,List.length_singleton];omega)).trans ?_
   simp [dropV,hx]
theorem z10p(m:Msg)(no:Int)(h:m.2.1.length≤1000000):Q177 m no=some (m.1,dropV m.2.1 no,()):=by
 unfold Q177 zhj
 dsimp only
 have:=loopI vnil m.2.1 (by rw[zh];omega) (fun i (x:Val) (s:Msg×Msg) K=>(bif(!(decide (x.1=no))) then(bif(decide ((s.2.2.1.length+(List.length ([x]:List Val)))*24≤140737488355328)) then K (s.1,(s.2.1,(s.2.2.1++([x]:List Val)),())) else none) else K s)) (fun s=>some s)
  (fun k i s=>z9i k no m.2.1 (m.2.1.length:Int) i s.1 s.2) (fun k i s=>rfl) ((bs [],[],()),(m.1,[],()))
 rw[this,z8z no _ _ _ _ (by simp;omega)]
 rfl
def idxGt(no:Int):List Val→Int→Int
 | [],_=> -1
 |x::r,i=>if no<x.1 then i else idxGt no r (i+1)
theorem z4r(no:Int):∀(l:List Val) (i:Int),0≤i→(idxGt no l i= -1∧∀x∈l,x.1≤no)∨(i≤idxGt no l i∧idxGt no l i<i+l.length)
 | [],i,h=> .inl ⟨rfl,fun x hx=>by cases hx⟩
 |x::r,i,h=>by
  unfold idxGt
  by_cases hx:no<x.1
  ·rw[if_pos hx];right;simp only[List.length_cons];omega
  ·rw[if_neg hx]
   rcases z4r no r (i+1) (by omega) with⟨h1,h2⟩|h1
   ·left
    refine⟨h1,fun y hy=> ?_⟩
    rcases List.mem_cons.1 hy with rfl|hy
    ·omega
    ·exact h2 y hy
   ·right;simp only[List.length_cons];omega
def exV(r no:Int):Sum (Int×Int) Int:=bif decide (r<0) then .inr no else .inl (r,no)
theorem zw4(no:Int):∀(l:List Val) (i:Int),0≤i→runI (fun i (x:Val) (s:Int) K=>((Q176 x s).bind fun r1=>(bif r1.1 then some (Sum.inl (i,r1.2)) else K r1.2))) (fun s=>some (Sum.inr s)) l i no=some (exV (idxGt no l i) no)
 | [],i,h=>rfl
 |x::r,i,h=>by
  rw[runI,idxGt]
  show(bif decide (no<x.1) then some (Sum.inl (i,no)) else runI _ _ r (i+1) no)=_
  by_cases hx:no<x.1
  ·rw[zT hx,zC,if_pos hx]
   unfold exV
   rw[zF (by omega)];rfl
  ·rw[zF hx,zD,if_neg hx]
   exact zw4 no r (i+1) (by omega)
theorem z12z(l:List Val)(no:Int)(h:l.length≤1000000):Q216 l no=some (idxGt no l 0,no):=by
 unfold Q216 zir
 dsimp only
 have:=loopI vnil l (by rw[zh];omega) (fun i (x:Val) (s:Int) K=>((Q176 x s).bind fun r1=>(bif r1.1 then some (Sum.inl (i,r1.2)) else K r1.2))) (fun s=>some (Sum.inr s))
  (fun k i s=>z9t k l (l.length:Int) i s) (fun k i s=>rfl) no
 rw[this,zw4 no l 0 (Int.le_refl _),zc]
 unfold exV
 rcases z4r no l 0 (Int.le_refl _) with⟨h1,_⟩|h1
 ·rw[h1];rfl
 ·rw[zF (by omega)];rfl
theorem z19o(old:List Val)(at_:Nat)(v d:Val)(h:at_≤old.length):
 putL (List.set (putL (List.replicate (old.length+1) d) (List.take (old.length+1) (List.drop 0 (List.take at_ old))) 0) at_ v) (List.take (old.length+1-(at_+1)) (List.drop at_ (List.take old.length old))) (at_+1)=old.take at_++v::old.drop at_:=by
 have e1:List.take (old.length+1) (List.drop 0 (List.take at_ old))=old.take at_:=by
  rw[List.drop_zero,List.take_take,Nat.min_eq_right (by omega)]
 have e2:List.take (old.length+1-(at_+1)) (List.drop at_ (List.take old.length old))=old.drop at_:=by
  rw[List.take_length,List.take_of_length_le (by rw[List.length_drop];omega)]
 rw[e1,e2]
 have hl:(old.take at_).length=at_:=by rw[List.length_take];omega
 have e3:putL (List.replicate (old.length+1) d) (old.take at_) 0=old.take at_++List.replicate (old.length+1-at_) d:=by
  unfold putL
  rw[List.take_zero,List.nil_append,hl,Nat.zero_add,List.drop_replicate]
 obtain⟨n,hn⟩:∃n,old.length+1-at_=n+1:=⟨old.length-at_,by omega⟩
 have e4:List.set (old.take at_++List.replicate (old.length+1-at_) d) at_ v=old.take at_++v::List.replicate n d:=by
  rw[hn,List.replicate_succ,List.set_append,if_neg (by omega),hl,Nat.sub_self,List.set_cons_zero]
 rw[e3,e4]
 unfold putL
 have e5:(old.take at_++v::List.replicate n d).take (at_+1)=old.take at_++ [v]:=by
  rw[List.take_append,hl,show at_+1-at_=1 by omega,List.take_of_length_le (by omega)];rfl
 have e6:(old.take at_++v::List.replicate n d).drop (at_+1+(old.drop at_).length)=[]:=by
  apply List.drop_eq_nil_of_le
  rw[List.length_append,hl,List.length_cons,List.length_replicate,List.length_drop]
  omega
 rw[e5,e6,List.append_nil,List.append_assoc]
 rfl
theorem zx0(q t:ByteArray)(no:Int)(old:List Val)(at_:Nat)(h:at_≤old.length)(hl:old.length≤1000000):
 (bif(decide ((zW zI (((List.length old):Int)+(1:Int)))=(zW zI (((List.length old):Int)+(1:Int))))) then(bif(decide ((0:Int)≤(zW zI (((List.length old):Int)+(1:Int))))) then(bif(decide ((zW zI (((List.length old):Int)+(1:Int)))*24≤140737488355328)) then(bif(decide ((0:Int)≤((at_:Nat):Int))) then(bif(decide (((at_:Nat):Int)≤(((List.length old):Nat):Int))) then(bif(Nat.beq ((zW zI (((List.length old):Int)+(1:Int)))).toNat (List.length (List.replicate ((zW zI (((List.length old):Int)+(1:Int)))).toNat ((0:Int),(bs []),())))) then(zd ((at_:Nat):Int) ((zW zI (((List.length old):Int)+(1:Int)))).toNat (bif(Nat.ble ((((at_:Nat):Int)).toNat+1) (List.length (putL (List.replicate ((zW zI (((List.length old):Int)+(1:Int)))).toNat ((0:Int),(bs []),())) (List.take ((zW zI (((List.length old):Int)+(1:Int)))).toNat (List.drop 0 (List.take (((at_:Nat):Int)).toNat old))) 0))) then(bif(decide ((0:Int)≤(zW zI (((at_:Nat):Int)+(1:Int))))) then(bif(decide ((zW zI (((at_:Nat):Int)+(1:Int)))≤((((zW zI (((List.length old):Int)+(1:Int)))).toNat:Nat):Int))) then(bif(decide ((0:Int)≤((at_:Nat):Int))) then(bif(decide (((at_:Nat):Int)≤(((List.length old):Nat):Int))) then(bif(Nat.beq ((zW zI (((List.length old):Int)+(1:Int)))).toNat (List.length (List.set (putL (List.replicate ((zW zI (((List.length old):Int)+(1:Int)))).toNat ((0:Int),(bs []),())) (List.take ((zW zI (((List.length old):Int)+(1:Int)))).toNat (List.drop 0 (List.take (((at_:Nat):Int)).toNat old))) 0) (((at_:Nat):Int)).toNat (no,t,())))) then(bif(Nat.ble ((zW zI (((at_:Nat):Int)+(1:Int)))).toNat ((zW zI (((List.length old):Int)+(1:Int)))).toNat) then(bif(Nat.beq ((zW zI (((List.length old):Int)+(1:Int)))).toNat (List.length (putL (List.set (putL (List.replicate ((zW zI (((List.length old):Int)+(1:Int)))).toNat ((0:Int),(bs []),())) (List.take ((zW zI (((List.length old):Int)+(1:Int)))).toNat (List.drop 0 (List.take (((at_:Nat):Int)).toNat old))) 0) (((at_:Nat):Int)).toNat (no,t,())) (List.take (((zW zI (((List.length old):Int)+(1:Int)))).toNat-((zW zI (((at_:Nat):Int)+(1:Int)))).toNat) (List.drop (((at_:Nat):Int)).toNat (List.take (List.length old) old))) ((zW zI (((at_:Nat):Int)+(1:Int)))).toNat))) then(some (q,(putL (List.set (putL (List.replicate ((zW zI (((List.length old):Int)+(1:Int)))).toNat ((0:Int),(bs []),())) (List.take ((zW zI (((List.length old):Int)+(1:Int)))).toNat (List.drop 0 (List.take (((at_:Nat):Int)).toNat old))) 0) (((at_:Nat):Int)).toNat (no,t,())) (List.take (((zW zI (((List.length old):Int)+(1:Int)))).toNat-((zW zI (((at_:Nat):Int)+(1:Int)))).toNat) (List.drop (((at_:Nat):Int)).toNat (List.take (List.length old) old))) ((zW zI (((at_:Nat):Int)+(1:Int)))).toNat),())) else none) else none) else none) else none) else none) else none) else none) else none)) else none) else none) else none) else none) else none) else none)=some (q,old.take at_++(no,t,())::old.drop at_,()):=by
 have w1:zW zI ((old.length:Int)+1)=((old.length+1:Nat):Int):=z18 (by omega)
 have w2:zW zI ((at_:Int)+1)=((at_+1:Nat):Int):=z18 (by omega)
 simp only[w1,w2,Int.toNat_natCast]
 have key:=z19o old at_ (no,t,()) ((0:Int),bs [],()) h
 have l1:(putL (List.replicate (old.length+1) ((0:Int),(bs []),())) (List.take (old.length+1) (List.drop 0 (List.take at_ old))) 0).length=old.length+1:=by
  unfold putL;simp;omega
 have l2:(old.take at_++(no,t,())::old.drop at_).length=old.length+1:=by
  rw[List.length_append,List.length_take,List.length_cons,List.length_drop];omega
 have d2:decide ((0:Int)≤((old.length+1:Nat):Int))=true:=zT (by omega)
 have d3:decide (((old.length+1:Nat):Int)*24≤140737488355328)=true:=zT (by omega)
 have d4:decide ((0:Int)≤(at_:Int))=true:=zT (by omega)
 have d5:decide ((at_:Int)≤(old.length:Int))=true:=zT (by omega)
 have d9:decide ((0:Int)≤((at_+1:Nat):Int))=true:=zT (by omega)
 have d10:decide (((at_+1:Nat):Int)≤((old.length+1:Nat):Int))=true:=zT (by omega)
 have b1:Nat.ble (at_+1) (old.length+1)=true:=Nat.ble_eq_true_of_le (by omega)
 have hw:∀{R:Type} (x:Option R),zd (at_:Int) (old.length+1) x=x:=fun x=>zj (by omega)
 simp only[decide_true,zC,d2,d3,d4,d5,List.length_replicate,Nat.beq_refl,hw,l1,b1,d9,d10,List.length_set,key,l2]
def insV(l:List Val)(no:Int)(t:ByteArray):List Val:=
 bif decide (idxGt no l 0<0) then l++ [(no,t,())] else l.take (idxGt no l 0).toNat++(no,t,())::l.drop (idxGt no l 0).toNat
def withM(m:Msg)(no:Int)(t:ByteArray):Msg:=(m.1,insV (dropV m.2.1 no) no t,())
theorem zan(m:Msg)(no:Int)(t:ByteArray)(h:m.2.1.length≤1000000):Q175 m no t=some (withM m no t):=by
 unfold Q175 zhh withM
 have hl:=zvl m.2.1 no
 rw[z10p m no h,zc]
 dsimp only
 generalize dropV m.2.1 no=old at*
 rw[z12z old no (by omega),zc]
 dsimp only
 unfold insV
 rcases z4r no old 0 (Int.le_refl _) with⟨h1,_⟩|h1
 ·rw[h1,zT (by omega:(-1:Int)<0),zC,zC]
  refine(zx0 m.1 t no old old.length (Nat.le_refl _) (by omega)).trans ?_
  rw[List.take_length,List.drop_length]
 ·rw[zF (by omega:¬idxGt no old 0<0),zD,zD]
  obtain⟨n,hn⟩:∃n:Nat,idxGt no old 0=n:=⟨(idxGt no old 0).toNat,by omega⟩
  rw[hn]
  refine(zx0 m.1 t no old n (by omega) (by omega)).trans ?_
  rw[Int.toNat_natCast]
def z2y(s:zf):List Val→Int→Option Fault
 | [],_=>none
 |x::r,last=>bif decide (x.1≤last) then some (11,x.1,()) else bif !hasS s x.1 then some (9,x.1,()) else bif !decide (valC (getS s x.1) x.2.1=0) then some (valC (getS s x.1) x.2.1,x.1,()) else z2y s r x.1
def z123(o:Option Fault):Option (Sum Fault Fault):=some (match o with
 |some f=> .inl f
 |none=> .inr z13)
theorem zou(s:zf)(hs:s.2.2.1.length≤maxLen):∀(l:List Val) (i last:Int),(∀v∈l,v.2.1.size≤1099511627776)→
 runI (fun i (x:Val) (t9:Int) K=>(bif(decide (x.1≤t9)) then some (Sum.inl ((11:Int),x.1,())) else((Q211 s x.1).bind fun r3=>(bif(!r3.2) then some (Sum.inl ((9:Int),x.1,())) else((Q219 r3.1 x.2.1).bind fun r4=>(bif(!(decide (r4=(0:Int)))) then some (Sum.inl (r4,x.1,())) else K x.1)))))) (fun _=>some (Sum.inr z13)) l i last=z123 (z2y s l last)
 | [],i,last,_=>rfl
 |x::r,i,last,h=>by
  rw[runI,z2y,z36 s _ hs,zc]
  cases decide (x.1≤last) with
  |true=>rfl
  |false=>
   rw[zD,zD]
   dsimp only
   cases hasS s x.1 with
   |false=>rfl
   |true=>
    rw[Bool.not_true,zD,zD,z2z _ _ (h x List.mem_cons_self),zc]
    cases decide (valC (getS s x.1) x.2.1=0) with
    |false=>rfl
    |true=>
     rw[Bool.not_true,zD,zD]
     exact zou s hs r (i+1) x.1 (fun v hv=>h v (List.mem_cons_of_mem _ hv))
def msgC(s:zf)(m:Msg):Fault:=
 bif !decide ((z1a s).1=0) then(1,-1,()) else bif !z1c m.1 then(7,0,()) else bif !decide (verM m.1=s.2.1) then(7,0,()) else match z2y s m.2.1 0 with
  |some f=>f
  |none=>z13
theorem zkt(s:zf)(m:Msg)(hs:s.2.2.1.length≤maxLen)(h:MsgOk m):Q172 s m=some (msgC s m):=by
 unfold Q172 zhc msgC
 rw[z7k s hs,zc,z6q m.1 (by rw[zh];exact h.mti),zc]
 cases decide ((z1a s).1=0) with
 |false=>rfl
 |true=>
  rw[Bool.not_true,zD,zD]
  dsimp only
  cases z1c m.1 with
  |false=>rfl
  |true=>
   rw[Bool.not_true,zD,zD]
   cases decide (verM m.1=s.2.1) with
   |false=>rfl
   |true=>
    rw[Bool.not_true,zD,zD]
    have hl:=h.len
    have:=loopI vnil m.2.1 (by rw[zh];omega) (fun i (x:Val) (t9:Int) K=>(bif(decide (x.1≤t9)) then some (Sum.inl ((11:Int),x.1,())) else((Q211 s x.1).bind fun r3=>(bif(!r3.2) then some (Sum.inl ((9:Int),x.1,())) else((Q219 r3.1 x.2.1).bind fun r4=>(bif(!(decide (r4=(0:Int)))) then some (Sum.inl (r4,x.1,())) else K x.1)))))) (fun _=>some (Sum.inr z13))
     (fun k i t9=>z9f k t9 m.2.1 (m.2.1.length:Int) i s z13) (fun k i t9=>rfl) 0
    rw[this,zou s hs _ _ _ h.txt]
    unfold z123
    cases z2y s m.2.1 0<;>rfl
theorem z1hp{a b:Msg}:a=b↔a.1=b.1∧a.2.1=b.2.1:=⟨fun h=>by rw[h];exact⟨rfl,rfl⟩,fun h=>Prod.ext h.1 (Prod.ext h.2 rfl)⟩
end Groat

namespace Groat
open Go.IntKind renaming wrap→zW,i64→zI,u8→zU
open Go Go.Ref
abbrev Map:=List Pair×List Rule×Unit
structure MapOk(m:Map):Prop where
 mtis:PairsOk m.1
 len:m.2.1.length≤1000000
 rules:∀r∈m.2.1,RuleOk r
def mtisC(a b:zf):List ByteArray→List Pair→Int→Option (Int×Int)
 |_,[],_=>none
 |seen,p::r,i=>if z49 p a b=true then(if p.1∈seen then some (10,i) else mtisC a b (seen++ [p.1]) r (i+1)) else some (7,i)
abbrev Xr:=Sum (Int×Int×Int×Map×zf×zf) (Map×zf×zf)
def mtisR(m:Map)(a b:zf)(o:Option (Int×Int)):Option Xr:=some (match o with
 |some e=> .inl (e.1,2,e.2,m,a,b)
 |none=> .inr (m,a,b))
theorem zzn(m:Map)(a b:zf):∀(l:List Pair) (i:Int) (seen:List ByteArray),(∀p∈l,p.1.size≤1099511627776∧p.2.1.size≤1099511627776)→
 runI (fun i (x:Pair) (s:List Zt5) K=>((Q245 x a b).bind fun r2=>(bif(!r2) then some (Sum.inl ((7:Int),(2:Int),i,m,a,b)) else(bif mget (eqK .str) false s x.1 then some (Sum.inl ((10:Int),(2:Int),i,m,a,b)) else(bif mhas (eqK .str) s x.1 then none else K (s++ [(x.1,true)])))))) (fun _=>some (Sum.inr (m,a,b))) l i (seenM seen)=mtisR m a b (mtisC a b seen l i)
 | [],i,seen,_=>rfl
 |p::r,i,seen,h=>by
  obtain⟨h1,h2⟩:=h p List.mem_cons_self
  simp only[runI,mtisC]
  rw[z1eu p a b (by rw[zh];omega) (by rw[zh];omega),Option.bind_some]
  cases z49 p a b with
  |false=>rw[if_neg (by simp)];rfl
  |true=>
   rw[if_pos rfl]
   simp only[Bool.not_true,zD]
   have e1:=z8d (eqK .str) (fun _ _=>rfl) p.1 seen
   have e2:=z8e (eqK .str) (fun _ _=>rfl) p.1 seen
   by_cases hm:p.1∈seen
   ·rw[e1.2 hm,if_pos hm];rfl
   ·rw[z58 e1 hm,z58 e2 hm,if_neg hm,zD,zD,z84]
    exact zzn m a b r (i+1) (seen++ [p.1]) fun q hq=>h q (List.mem_cons_of_mem _ hq)
theorem z194(m:Map)(a b:zf)(h:PairsOk m.1):z7c FUEL m.1 (m.1.length:Int) 0 m a b []=mtisR m a b (mtisC a b [] m.1 0):=by
 have hl:=h.len
 have:=loopI pair0 m.1 (by rw[zh];omega) (fun i (x:Pair) (s:List Zt5) K=>((Q245 x a b).bind fun r2=>(bif(!r2) then some (Sum.inl ((7:Int),(2:Int),i,m,a,b)) else(bif mget (eqK .str) false s x.1 then some (Sum.inl ((10:Int),(2:Int),i,m,a,b)) else(bif mhas (eqK .str) s x.1 then none else K (s++ [(x.1,true)])))))) (fun _=>some (Sum.inr (m,a,b)))
  (fun k i s=>z7c k m.1 (m.1.length:Int) i m a b s) (fun k i s=>rfl) []
 rw[this]
 exact zzn m a b m.1 0 [] h.sz
def z1o(x y:Rule):Bool:=(!decide (x.2.1=0)&&decide (x.2.1=y.2.1))||(!decide (x.2.2.1=0)&&decide (x.2.2.1=y.2.2.1))
def z3u(a b:zf):List Rule→List Rule→Int→Option (Int×Int)
 |_,[],_=>none
 |prev,r::l,i=>if ruleC r a b=0 then(if prev.any (fun q=>z1o q r)=true then some (10,i) else z3u a b (prev++ [r]) l (i+1)) else some (ruleC r a b,i)
def z19s(o:Option (Int×Int)):Option (Sum Zt1 Unit):=some (match o with
 |some e=> .inl (e.1,3,e.2)
 |none=> .inr ())
def mapC(m:Map)(a b:zf):Int×Int×Int:=
 if(z1a a).1=0 then(if(z1a b).1=0 then(if 256<m.1.length then(5,2,256) else match mtisC a b [] m.1 0 with
  |some e=>(e.1,2,e.2)
  |none=>if 256<m.2.1.length then(5,3,256) else match z3u a b [] m.2.1 0 with
   |some e=>(e.1,3,e.2)
   |none=>(0,0,0)) else(1,1,1)) else(1,1,0)
end Groat

namespace Groat
open Go.IntKind renaming wrap→zW,i64→zI,u8→zU
open Go Go.Ref
theorem zwm(l:List Int)(f:Int):setH (l++ [f])=setH l|||setH [f]:=by simp [setH,List.foldl_append]
theorem zwn(l:List Int)(f:Int):setL (l++ [f])=setL l|||setL [f]:=by simp [setL,List.foldl_append]
theorem zv8(fs:List Int)(f:Int):(setH fs&&&setH [f]=0∧setL fs&&&setL [f]=0)↔¬(f∈fs∧inR f=true):=by
 constructor
 ·rintro⟨h1,h2⟩ ⟨h3,h4⟩
  have:=z125 (setH fs) (setL fs) (setH [f]) (setL [f]) f
  rw[h1,h2,zvy,z66,z66,h4] at this
  simp [h3] at this
 ·intro h
  refine z12o (z176 (z2u fs)) (z176 (z2v fs)) (by decide) (by decide) fun n _ _=> ?_
  rw[zvy,z125,z66,z66]
  by_cases e:n=f
  ·subst e
   cases hr:inR n with
   |false=>simp
   |true=>
    have:n∉fs:=fun hm=>h ⟨hm,hr⟩
    simp [this]
  ·simp [e]
theorem z10o(x y:Nat):(decide (((x:Nat):Int)=0)&&(decide (((y:Nat):Int)=0)&&true))=decide (x=0∧y=0):=by
 rw[Bool.and_true,←Bool.decide_and]
 exact decide_eq_decide.2 (by omega)
theorem zp1{s:zf}(h:Okay s){no:Int}(hh:hasS s no=true):inR no=true:=by
 unfold hasS findS at hh
 obtain⟨x,hx⟩:=Option.isSome_iff_exists.1 hh
 have h1:=List.find?_some hx
 have h2:=List.mem_of_find?_eq_some hx
 have h3:=zbg (h.2.2.2.1 x h2)
 have h4:x.1=no:=of_decide_eq_true h1
 unfold inR
 exact zT (by omega)
theorem z13x{r:Rule}{a b:zf}(h:ruleC r a b=0):endsE r a b=false:=by
 unfold ruleC at h
 cases hc:(decide (r.1<1)||decide ((5:Int)<r.1)) with
 |true=>rw[hc] at h;simp at h
 |false=>
  rw[hc] at h
  cases he:endsE r a b with
  |false=>rfl
  |true=>rw[he] at h;simp at h
theorem z1ej{r:Rule}{a b:zf}(ha:Okay a)(hb:Okay b)(h:ruleC r a b=0):(r.2.1≠0→inR r.2.1=true)∧(r.2.2.1≠0→inR r.2.2.1=true):=by
 have he:=z13x h
 unfold endsE at he
 rw[Bool.or_eq_false_iff] at he
 refine⟨fun hz=> ?_,fun hz=> ?_⟩
 ·by_cases k:r.1=3
  ·rw[zT k,zF hz] at he;simp at he
  ·rw[zF k] at he
   exact zp1 ha (by simpa using he.1)
 ·by_cases k:r.1=2
  ·rw[zT k,zF hz] at he;simp at he
  ·rw[zF k] at he
   exact zp1 hb (by simpa using he.2)
def froms(l:List Rule):List Int:=l.map fun q=>q.2.1
def tos(l:List Rule):List Int:=l.map fun q=>q.2.2.1
theorem zzd:inR 0=false:=by decide
theorem z1a8(prev:List Rule)(r:Rule)(h1:r.2.1≠0→inR r.2.1=true)(h2:r.2.2.1≠0→inR r.2.2.1=true):
 prev.any (fun q=>z1o q r)=(!decide (¬(r.2.1∈froms prev∧inR r.2.1=true))|| !decide (¬(r.2.2.1∈tos prev∧inR r.2.2.1=true))):=by
 have e:prev.any (fun q=>z1o q r)=true↔((r.2.1∈froms prev∧inR r.2.1=true)∨(r.2.2.1∈tos prev∧inR r.2.2.1=true)):=by
  rw[List.any_eq_true]
  unfold z1o froms tos
  simp only[List.mem_map]
  constructor
  ·rintro⟨q,hq,h⟩
   simp only[Bool.or_eq_true,Bool.and_eq_true,Bool.not_eq_true',decide_eq_false_iff_not,decide_eq_true_eq] at h
   rcases h with⟨g1,g2⟩|⟨g1,g2⟩
   ·exact .inl ⟨⟨q,hq,g2⟩,h1 (by rw[←g2];exact g1)⟩
   ·exact .inr ⟨⟨q,hq,g2⟩,h2 (by rw[←g2];exact g1)⟩
  ·rintro(⟨⟨q,hq,g⟩,hr⟩|⟨⟨q,hq,g⟩,hr⟩)
   ·refine⟨q,hq,?_⟩
    have:q.2.1≠0:=fun e=>by rw[←g,e,zzd] at hr;cases hr
    rw[zF this,zT g];rfl
   ·refine⟨q,hq,?_⟩
    have:q.2.2.1≠0:=fun e=>by rw[←g,e,zzd] at hr;cases hr
    rw[zF this,zT g];simp
 cases hb:prev.any (fun q=>z1o q r) with
 |true=>
  rcases e.1 hb with h|h
  ·rw[zF (fun hn=>hn h)];rfl
  ·rw[show decide (¬(r.2.2.1∈tos prev∧inR r.2.2.1=true))=false from zF (fun hn=>hn h)];simp
 |false=>
  have hn:=fun h=>(by rw[hb] at e;exact absurd (e.2 h) (by simp):False)
  rw[zT (show¬(r.2.1∈froms prev∧inR r.2.1=true) from fun h=>hn (.inl h)),zT (show¬(r.2.2.1∈tos prev∧inR r.2.2.1=true) from fun h=>hn (.inr h))];rfl
abbrev S2:=Int×Int×Unit
def fsS(l:List Int):S2:=((setH l:Int),(setL l:Int),())
theorem zwk(a b:zf)(ha:a.2.2.1.length≤maxLen)(hb:b.2.2.1.length≤maxLen)(oa:Okay a)(ob:Okay b):∀(l:List Rule) (i:Int) (prev:List Rule),(∀r∈l,RuleOk r)→
 runI (fun i (x:Rule) (s:S2×S2) K=>((Q206 x a b).bind fun r3=>(bif(!decide (r3=0)) then some (Sum.inl (r3,(3:Int),i)) else((Q33 ([x.2.1]:List Int)).bind fun r4=>((Q33 ([x.2.2.1]:List Int)).bind fun r5=>((Q34 s.1 r4).bind fun r6=>(bif(!(decide (r6.1=0)&&(decide (r6.2.1=0)&&true))) then some (Sum.inl ((10:Int),(3:Int),i)) else((Q34 s.2 r5).bind fun r7=>(bif(!(decide (r7.1=0)&&(decide (r7.2.1=0)&&true))) then some (Sum.inl ((10:Int),(3:Int),i)) else((Q35 s.1 r4).bind fun r8=>((Q35 s.2 r5).bind fun r9=>K (r8,r9)))))))))))) (fun _=>some (Sum.inr ())) l i (fsS (froms prev),fsS (tos prev))=z19s (z3u a b prev l i)
 | [],i,prev,_=>rfl
 |r::l,i,prev,h=>by
  simp only[runI,z3u]
  rw[zzz r a b (h r List.mem_cons_self) ha hb,Option.bind_some]
  by_cases z:ruleC r a b=0
  ·rw[zT z,if_pos z]
   simp only[Bool.not_true,zD]
   obtain⟨i1,i2⟩:=z1ej oa ob z
   have hany:=z1a8 prev r i1 i2
   rw[Of_eq _ (by simp [zh]),Option.bind_some,Of_eq _ (by simp [zh]),Option.bind_some]
   unfold fsS
   rw[z11e _ _ _ _ (z2u _) (z2v _) (z2u _) (z2v _),Option.bind_some]
   dsimp only
   rw[z10o,decide_eq_decide.2 (zv8 (froms prev) r.2.1)]
   by_cases c1:¬(r.2.1∈froms prev∧inR r.2.1=true)
   ·rw[zT c1] at hany⊢
    simp only[Bool.not_true,zD]
    rw[z11e _ _ _ _ (z2u _) (z2v _) (z2u _) (z2v _),Option.bind_some]
    dsimp only
    rw[z10o,decide_eq_decide.2 (zv8 (tos prev) r.2.2.1)]
    by_cases c2:¬(r.2.2.1∈tos prev∧inR r.2.2.1=true)
    ·rw[zT c2] at hany⊢
     rw[hany]
     simp only[Bool.not_true,zD,Bool.or_false]
     rw[if_neg (by simp),zbn _ _ _ _ (z2u _) (z2v _) (z2u _) (z2v _),Option.bind_some,zbn _ _ _ _ (z2u _) (z2v _) (z2u _) (z2v _),Option.bind_some]
     have:=zwk a b ha hb oa ob l (i+1) (prev++ [r]) (fun q hq=>h q (List.mem_cons_of_mem _ hq))
     rw[show froms (prev++ [r])=froms prev++ [r.2.1] by simp [froms],show tos (prev++ [r])=tos prev++ [r.2.2.1] by simp [tos]] at this
     unfold fsS at this
     rw[zwm,zwn,zwm,zwn] at this
     exact this
    ·rw[zF c2] at hany⊢
     rw[hany];rfl
   ·rw[zF c1] at hany⊢
    rw[hany];rfl
  ·rw[zF z,if_neg z];rfl
theorem z100(m:Map)(a b:zf)(ha:a.2.2.1.length≤maxLen)(hb:b.2.2.1.length≤maxLen):z7b FUEL ([a,b]:List zf) ((List.length ([a,b]:List zf)):Int) 0 m a b=some (if(z1a a).1=0 then(if(z1a b).1=0 then .inr (m,a,b) else .inl (1,1,1,m,a,b)) else .inl (1,1,0,m,a,b)):=by
 obtain⟨k,hk⟩:=fuel3
 rw[hk]
 simp only[z7b,zjn]
 have w0:∀{R:Type} (x:Option R),zd 0 ([a,b]:List zf).length x=x:=fun x=>zr (by omega) (by simp)
 have w1:∀{R:Type} (x:Option R),zd 1 ([a,b]:List zf).length x=x:=fun x=>zr (by omega) (by simp)
 have e1:zW zI (0+1)=1:=rfl
 have e2:zW zI (1+1)=2:=rfl
 have d0:decide ((0:Int)<(([a,b]:List zf).length:Int))=true:=rfl
 have d1:decide ((1:Int)<(([a,b]:List zf).length:Int))=true:=rfl
 have d2:decide ((2:Int)<(([a,b]:List zf).length:Int))=false:=rfl
 rw[d0,zC,w0,show List.getD ([a,b]:List zf) (0:Int).toNat ((0:Int),(0:Int),([]:List Spec),())=a from rfl,z7k a ha,Option.bind_some]
 by_cases za:(z1a a).1=0
 ·rw[zT za,if_pos za]
  simp only[Bool.not_true,zD]
  rw[e1,d1,zC,w1,show List.getD ([a,b]:List zf) (1:Int).toNat ((0:Int),(0:Int),([]:List Spec),())=b from rfl,z7k b hb,Option.bind_some]
  by_cases zb:(z1a b).1=0
  ·rw[zT zb,if_pos zb]
   simp only[Bool.not_true,zD]
   rw[e2,d2,zD]
  ·rw[zF zb,if_neg zb];rfl
 ·rw[zF za,if_neg za];rfl
abbrev rule0:Rule:=(0,0,0,bs [],[],())
theorem z4u(m:Map)(a b:zf)(h:MapOk m)(ha:a.2.2.1.length≤maxLen)(hb:b.2.2.1.length≤maxLen):Q241 m a b=some (mapC m a b):=by
 have h1:=h.mtis.len
 have h2:=h.len
 unfold Q241 zjm mapC
 dsimp only
 rw[z100 m a b ha hb,Option.bind_some]
 by_cases za:(z1a a).1=0
 ·rw[if_pos za,if_pos za]
  by_cases zb:(z1a b).1=0
  ·rw[if_pos zb,if_pos zb]
   simp only[Sum.elim_inr]
   unfold zjo
   by_cases hm:256<m.1.length
   ·rw[zT (by omega),if_pos hm];rfl
   ·rw[zF (by omega),if_neg hm,zD]
    dsimp only
    rw[z194 m a b h.mtis]
    unfold mtisR
    cases mtisC a b [] m.1 0 with
    |some e=>rfl
    |none=>
     simp only[Option.bind_some,Sum.elim_inr]
     unfold zjp
     by_cases hr:256<m.2.1.length
     ·rw[zT (by omega),if_pos hr];rfl
     ·rw[zF (by omega),if_neg hr,zD]
      dsimp only
      have:=loopI rule0 m.2.1 (by rw[zh];omega) (fun i (x:Rule) (s:S2×S2) K=>((Q206 x a b).bind fun r3=>(bif(!decide (r3=0)) then some (Sum.inl (r3,(3:Int),i)) else((Q33 ([x.2.1]:List Int)).bind fun r4=>((Q33 ([x.2.2.1]:List Int)).bind fun r5=>((Q34 s.1 r4).bind fun r6=>(bif(!(decide (r6.1=0)&&(decide (r6.2.1=0)&&true))) then some (Sum.inl ((10:Int),(3:Int),i)) else((Q34 s.2 r5).bind fun r7=>(bif(!(decide (r7.1=0)&&(decide (r7.2.1=0)&&true))) then some (Sum.inl ((10:Int),(3:Int),i)) else((Q35 s.1 r4).bind fun r8=>((Q35 s.2 r5).bind fun r9=>K (r8,r9)))))))))))) (fun _=>some (Sum.inr ()))
       (fun k i s=>z9x k m.2.1 (m.2.1.length:Int) i a b s.1 s.2) (fun k i s=>rfl) (fsS (froms []),fsS (tos []))
      have h3:=zwk a b ha hb ((z2b a).1 za) ((z2b b).1 zb) m.2.1 0 [] h.rules
      rw[h3] at this
      have h4:fsS (froms [])=((0:Int),(0:Int),()):=rfl
      have h5:fsS (tos [])=((0:Int),(0:Int),()):=rfl
      rw[h4,h5] at this
      rw[this]
      unfold z19s
      cases z3u a b [] m.2.1 0<;>rfl
  ·rw[if_neg zb,if_neg zb];rfl
 ·rw[if_neg za,if_neg za];rfl
end Groat

namespace Groat
open Go.IntKind renaming wrap→zW,i64→zI,u8→zU
open Go Go.Ref
instance ruleDec:DecidableEq Rule:=fun x y=>decidable_of_iff ((decide (x.1=y.1)&&(decide (x.2.1=y.2.1)&&(decide (x.2.2.1=y.2.2.1)&&(decide (x.2.2.2.1=y.2.2.2.1)&&decide (x.2.2.2.2.1=y.2.2.2.2.1)))))=true) (by obtain⟨a1,a2,a3,a4,a5,u⟩:=x;obtain⟨b1,b2,b3,b4,b5,v⟩:=y;simp)
instance mapDec:DecidableEq Map:=fun x y=>decidable_of_iff ((decide (x.1=y.1)&&decide (x.2.1=y.2.1))=true) (by obtain⟨a1,a2,u⟩:=x;obtain⟨b1,b2,v⟩:=y;simp)
def turnR(r:Rule):Rule:=(r.1,r.2.2.1,r.2.1,r.2.2.2.1,turnP r.2.2.2.2.1,())
def turnM(m:Map):Map:=(turnP m.1,m.2.1.map turnR,())
abbrev map0:Map:=([],[],())
theorem zwt(f:List Pair→Option (List Pair))(hf:∀l,l.length≤1000000→f l=some (turnP l)):∀(l:List Rule) (i:Int) (s:Map×Map),(∀r∈l,r.2.2.2.2.1.length≤1000000)→s.2.2.1.length+l.length≤1099511627776→
 runI (fun i (x:Rule) (s:Map×Map) K=>((f x.2.2.2.2.1).bind fun r2=>(bif(decide ((s.2.2.1.length+(List.length ([(x.1,x.2.2.1,x.2.1,x.2.2.2.1,r2,())]:List Rule)))*64≤140737488355328)) then K (s.1,(s.2.1,(s.2.2.1++([(x.1,x.2.2.1,x.2.1,x.2.2.2.1,r2,())]:List Rule)),())) else none))) (fun s=>some s) l i s=some (s.1,(s.2.1,s.2.2.1++l.map turnR,()))
 | [],i,s,_,_=>by simp only[runI,List.map_nil,List.append_nil]
 |r::l,i,s,h,hl=>by
  simp only[List.length_cons] at hl
  simp only[runI]
  rw[hf _ (h r List.mem_cons_self),Option.bind_some,zT (by simp;omega),zC]
  have:=zwt f hf l (i+1) (s.1,(s.2.1,(s.2.2.1++ [turnR r]),())) (fun q hq=>h q (List.mem_cons_of_mem _ hq)) (by simp;omega)
  refine Eq.trans this ?_
  simp
theorem z1gy(m:Map)(h:MapOk m):Q164 m=some (turnM m):=by
 have hl:=h.len
 unfold Q164 zh8
 dsimp only
 rw[z7u _ h.mtis.len,Option.bind_some]
 have:=loopI rule0 m.2.1 (by rw[zh];omega) (fun i (x:Rule) (s:Map×Map) K=>((Q23 x.2.2.2.2.1).bind fun r2=>(bif(decide ((s.2.2.1.length+(List.length ([(x.1,x.2.2.1,x.2.1,x.2.2.2.1,r2,())]:List Rule)))*64≤140737488355328)) then K (s.1,(s.2.1,(s.2.2.1++([(x.1,x.2.2.1,x.2.1,x.2.2.2.1,r2,())]:List Rule)),())) else none))) (fun s=>some s)
  (fun k i s=>z9e k m.2.1 (m.2.1.length:Int) i s.1 s.2) (fun k i s=>rfl) (map0,(turnP m.1,[],()))
 rw[zwt Q23 z7u _ _ _ (fun r hr=>(h.rules r hr).pairs.len) (by simp;omega)] at this
 rw[this]
 rfl
theorem z14c(r:Rule)(h:RuleOk r):Q127 r=some r:=by
 unfold Q127 zg8
 rw[zup _ h.pairs.len];rfl
theorem zvd:∀(l:List Rule) (i:Int) (s:Map×Map),(∀r∈l,RuleOk r)→s.2.2.1.length+l.length≤1099511627776→
 runI (fun i (x:Rule) (s:Map×Map) K=>((Q127 x).bind fun r2=>(bif(decide ((s.2.2.1.length+(List.length ([r2]:List Rule)))*64≤140737488355328)) then K (s.1,(s.2.1,(s.2.2.1++([r2]:List Rule)),())) else none))) (fun s=>some s) l i s=some (s.1,(s.2.1,s.2.2.1++l,()))
 | [],i,s,_,_=>by simp only[runI,List.append_nil]
 |r::l,i,s,h,hl=>by
  simp only[List.length_cons] at hl
  simp only[runI]
  rw[z14c r (h r List.mem_cons_self),Option.bind_some,zT (by simp;omega),zC]
  have:=zvd l (i+1) (s.1,(s.2.1,(s.2.2.1++ [r]),())) (fun q hq=>h q (List.mem_cons_of_mem _ hq)) (by simp;omega)
  refine Eq.trans this ?_
  simp
theorem zuq(m:Map)(h:MapOk m):Q130 m=some m:=by
 have hl:=h.len
 unfold Q130 zgc
 dsimp only
 rw[zup _ h.mtis.len,Option.bind_some]
 have:=loopI rule0 m.2.1 (by rw[zh];omega) (fun i (x:Rule) (s:Map×Map) K=>((Q127 x).bind fun r2=>(bif(decide ((s.2.2.1.length+(List.length ([r2]:List Rule)))*64≤140737488355328)) then K (s.1,(s.2.1,(s.2.2.1++([r2]:List Rule)),())) else none))) (fun s=>some s)
  (fun k i s=>z94 k i m s.1 s.2) (fun k i s=>rfl) (map0,(m.1,[],()))
 rw[zvd _ _ _ h.rules (by simp;omega)] at this
 rw[this]
 rfl
def eqRl(x y:Rule):Bool:=decide (x.1=y.1)&&(decide (x.2.1=y.2.1)&&(decide (x.2.2.1=y.2.2.1)&&(decide (x.2.2.2.1=y.2.2.2.1)&&decide (x.2.2.2.2.1=y.2.2.2.2.1))))
theorem z1di(x y:Rule):eqRl x y=true↔x=y:=by
 obtain⟨a1,a2,a3,a4,a5,u⟩:=x
 obtain⟨b1,b2,b3,b4,b5,v⟩:=y
 simp [eqRl]
theorem z172(a b:Map)(h:MapOk a):Q137 a b=some (decide (a=b)):=by
 have hl:=h.len
 unfold Q137 zgi
 dsimp only
 rw[zut _ _ (by have:=h.mtis.len;rw[zh];omega),Option.bind_some]
 have hab:a=b↔a.1=b.1∧a.2.1=b.2.1:=by
  obtain⟨a1,a2,u⟩:=a
  obtain⟨b1,b2,v⟩:=b
  simp
 by_cases h1:a.1=b.1
 ·rw[zT h1]
  simp only[Bool.not_true,zD]
  by_cases h2:a.2.1.length=b.2.1.length
  ·rw[zT (by omega)]
   simp only[Bool.not_true,zD]
   rw[zfj rule0 eqRl z1di a.2.1 b.2.1 h2 (by rw[zh];omega) (fun k i=>z5r k i a b) (fun k i=>by
    show z5r (k+1) i a b=_
    conv=>lhs;unfold z5r zgj
    have hp:(a.2.1.getD i.toNat rule0).2.2.2.2.1.length≤maxLen:=by
     rw[List.getD_eq_getElem?_getD]
     cases hq:a.2.1[i.toNat]? with
     |none=>simp [zh]
     |some r=>
      have:=(h.rules r (List.mem_of_getElem? hq)).pairs.len
      show r.2.2.2.2.1.length≤_
      rw[zh];omega
    rw[zut _ _ hp,Option.bind_some]
    unfold eqRl
    generalize decide ((a.2.1.getD i.toNat rule0).1=(b.2.1.getD i.toNat rule0).1)=c1
    generalize decide ((a.2.1.getD i.toNat rule0).2.1=(b.2.1.getD i.toNat rule0).2.1)=c2
    generalize decide ((a.2.1.getD i.toNat rule0).2.2.1=(b.2.1.getD i.toNat rule0).2.2.1)=c3
    generalize decide ((a.2.1.getD i.toNat rule0).2.2.2.1=(b.2.1.getD i.toNat rule0).2.2.2.1)=c4
    generalize decide ((a.2.1.getD i.toNat rule0).2.2.2.2.1=(b.2.1.getD i.toNat rule0).2.2.2.2.1)=c5
    cases c1<;>cases c2<;>cases c3<;>cases c4<;>cases c5<;>rfl)]
   by_cases he:a.2.1=b.2.1
   ·rw[if_pos he,zT (hab.2 ⟨h1,he⟩)];rfl
   ·rw[if_neg he,zF (fun e=>he (hab.1 e).2)];rfl
  ·rw[zF (by omega),zF (fun e=>h2 (by rw[(hab.1 e).2]))];rfl
 ·rw[zF h1,zF (fun e=>h1 (hab.1 e).1)];rfl
def z2w(r:Rule)(a b:zf):Bool:=
 bif decide (r.1=1) then(widS (getS a r.2.1) (getS b r.2.2.1)&&widS (getS b r.2.2.1) (getS a r.2.1)) else bif decide (r.1=4) then decide ((getS a r.2.1).2.2.2.1≤(getS b r.2.2.1).2.2.2.1) else bif decide (r.1=5) then bij r.2.2.2.2.1 else false
def invC(m:Map)(a b:zf):Bool:=decide ((mapC m a b).1=0)&&(bij m.1&&m.2.1.all fun r=>z2w r a b)
theorem z1ac(r:Rule)(a b:zf)(h:RuleOk r)(ha:a.2.2.1.length≤maxLen)(hb:b.2.2.1.length≤maxLen):Q165 r a b=some (z2w r a b):=by
 unfold Q165 zh9 z2w
 rw[z36 a _ ha,Option.bind_some,z36 b _ hb,Option.bind_some,ze9,Option.bind_some,ze9,Option.bind_some,zki _ h.pairs.len,Option.bind_some]
 generalize decide (r.1=1)=c1
 generalize decide (r.1=4)=c2
 generalize decide (r.1=5)=c3
 generalize widS (getS a r.2.1) (getS b r.2.2.1)=w1
 cases c1<;>cases c2<;>cases c3<;>cases w1<;>rfl
def allR(t:Bool):Option (Sum Bool Unit):=some (bif t then .inr () else .inl false)
theorem zpv(a b:zf)(ha:a.2.2.1.length≤maxLen)(hb:b.2.2.1.length≤maxLen):∀(l:List Rule) (i:Int),(∀r∈l,RuleOk r)→
 runI (fun i (x:Rule) (s:Unit) K=>((Q165 x a b).bind fun r3=>(bif(!r3) then some (Sum.inl false) else K s))) (fun _=>some (Sum.inr ())) l i ()=allR (l.all fun r=>z2w r a b)
 | [],i,_=>rfl
 |r::l,i,h=>by
  simp only[runI,List.all_cons]
  rw[z1ac r a b (h r List.mem_cons_self) ha hb,Option.bind_some]
  cases z2w r a b with
  |false=>rfl
  |true=>exact zpv a b ha hb l (i+1) fun q hq=>h q (List.mem_cons_of_mem _ hq)
theorem z116(m:Map)(a b:zf)(h:MapOk m)(ha:a.2.2.1.length≤maxLen)(hb:b.2.2.1.length≤maxLen):Q163 m a b=some (invC m a b):=by
 have hl:=h.len
 unfold Q163 zh6 invC
 rw[z4u m a b h ha hb,Option.bind_some]
 cases decide ((mapC m a b).1=0) with
 |false=>rfl
 |true=>
  simp only[Bool.not_true,zD,Bool.true_and]
  rw[zki _ h.mtis.len,Option.bind_some]
  cases bij m.1 with
  |false=>rfl
  |true=>
   simp only[Bool.not_true,zD,Bool.true_and]
   have:=loopI rule0 m.2.1 (by rw[zh];omega) (fun i (x:Rule) (s:Unit) K=>((Q165 x a b).bind fun r3=>(bif(!r3) then some (Sum.inl false) else K s))) (fun _=>some (Sum.inr ()))
    (fun k i s=>z9d k m.2.1 (m.2.1.length:Int) i a b) (fun k i s=>rfl) ()
   rw[this,zpv a b ha hb _ 0 h.rules]
   unfold allR
   cases(m.2.1.all fun r=>z2w r a b)<;>rfl
end Groat

namespace Groat
open Go.IntKind renaming wrap→zW,i64→zI,u8→zU
open Go Go.Ref
structure Rule0(r:Rule)(a b:zf):Prop where
 lo:¬r.1<1
 hi:¬(5:Int)<r.1
 ends:endsE r a b=false
 text:textE r=false
 kind:kindC r (getS a r.2.1) (getS b r.2.2.1)=0
theorem zfi{r:Rule}{a b:zf}:ruleC r a b=0↔Rule0 r a b:=by
 constructor
 ·intro h
  unfold ruleC at h
  by_cases c1:r.1<1
  ·rw[zT c1] at h;simp at h
  by_cases c2:(5:Int)<r.1
  ·rw[zT c2] at h;simp at h
  rw[zF c1,zF c2] at h
  simp only[Bool.or_self,zD] at h
  cases he:endsE r a b with
  |true=>rw[he] at h;simp at h
  |false=>
   rw[he,zD] at h
   cases ht:textE r with
   |true=>rw[ht] at h;simp at h
   |false=>rw[ht,zD] at h;exact⟨c1,c2,he,ht,h⟩
 ·intro h
  unfold ruleC
  rw[zF h.lo,zF h.hi,h.ends,h.text]
  exact h.kind
theorem Rule0.hasA{r:Rule}{a b:zf}(h:Rule0 r a b)(k:r.1≠3):hasS a r.2.1=true:=by
 have he:=h.ends
 unfold endsE at he
 rw[Bool.or_eq_false_iff,zF k] at he
 simpa using he.1
theorem Rule0.hasB{r:Rule}{a b:zf}(h:Rule0 r a b)(k:r.1≠2):hasS b r.2.2.1=true:=by
 have he:=h.ends
 unfold endsE at he
 rw[Bool.or_eq_false_iff,zF k] at he
 simpa using he.2
theorem z6v{a b:zf}:∀{l:List Pair} {seen:List ByteArray} {i:Int},mtisC a b seen l i=none↔(∀p∈l,z49 p a b=true)∧dupP seen l i=none
 | [],seen,i=>by simp [mtisC,dupP]
 |p::r,seen,i=>by
  simp only[mtisC,dupP,List.mem_cons,forall_eq_or_imp]
  cases ht:z49 p a b with
  |false=>simp
  |true=>
   rw[if_pos rfl]
   by_cases hm:p.1∈seen
   ·simp [hm]
   ·rw[if_neg hm,if_neg hm,z6v]
    simp
def z4z:List Rule→List Rule→Prop
 |_,[]=>True
 |prev,r::l=>prev.any (fun q=>z1o q r)=false∧z4z (prev++ [r]) l
theorem z6a{a b:zf}:∀{l:List Rule} {prev:List Rule} {i:Int},z3u a b prev l i=none↔(∀r∈l,ruleC r a b=0)∧z4z prev l
 | [],prev,i=>by simp [z3u,z4z]
 |r::l,prev,i=>by
  simp only[z3u,z4z,List.mem_cons,forall_eq_or_imp]
  by_cases z:ruleC r a b=0
  ·rw[if_pos z]
   cases hp:prev.any (fun q=>z1o q r) with
   |true=>simp
   |false=>
    rw[if_neg (by simp),z6a]
    simp [z]
  ·rw[if_neg z];simp [z]
theorem zpf{a b:zf}:∀{l:List Pair} {seen:List ByteArray} {i:Int} {e:Int×Int},mtisC a b seen l i=some e→e.1≠0
 |p::r,seen,i,e,h=>by
  simp only[mtisC] at h
  split at h
  ·split at h
   ·cases h;simp
   ·exact zpf h
  ·cases h;simp
theorem zky{a b:zf}:∀{l:List Rule} {prev:List Rule} {i:Int} {e:Int×Int},z3u a b prev l i=some e→e.1≠0
 |r::l,prev,i,e,h=>by
  simp only[z3u] at h
  split at h
  ·split at h
   ·cases h;simp
   ·exact zky h
  ·rename_i hz
   cases h;exact hz
structure Map0(m:Map)(a b:zf):Prop where
 sa:(z1a a).1=0
 sb:(z1a b).1=0
 len1:m.1.length≤256
 typed:∀p∈m.1,z49 p a b=true
 dup:dupP [] m.1 0=none
 len2:m.2.1.length≤256
 rules:∀r∈m.2.1,ruleC r a b=0
 twice:z4z [] m.2.1
theorem z81{m:Map}{a b:zf}:(mapC m a b).1=0↔Map0 m a b:=by
 constructor
 ·intro h
  unfold mapC at h
  split at h
  ·split at h
   ·rename_i h1 h2
    split at h
    ·cases h
    ·rename_i h3
     split at h
     ·rename_i e he
      exact absurd h (zpf he)
     ·rename_i hm
      split at h
      ·cases h
      ·rename_i h4
       split at h
       ·rename_i e he
        exact absurd h (zky he)
       ·rename_i hr
        obtain⟨g1,g2⟩:=z6v.1 hm
        obtain⟨g3,g4⟩:=z6a.1 hr
        exact⟨h1,h2,by omega,g1,g2,by omega,g3,g4⟩
   ·cases h
  ·cases h
 ·intro h
  unfold mapC
  have e1:=z6v.2 ⟨h.typed,h.dup⟩
  have e2:z3u a b [] m.2.1 0=none:=z6a.2 ⟨h.rules,h.twice⟩
  have l1:=h.len1
  have l2:=h.len2
  rw[if_pos h.sa,if_pos h.sb,if_neg (by omega),e1]
  simp only
  rw[if_neg (by omega),e2]
theorem Map0.eq{m:Map}{a b:zf}(h:Map0 m a b):mapC m a b=(0,0,0):=by
 unfold mapC
 have e1:=z6v.2 ⟨h.typed,h.dup⟩
 have e2:z3u a b [] m.2.1 0=none:=z6a.2 ⟨h.rules,h.twice⟩
 have l1:=h.len1
 have l2:=h.len2
 rw[if_pos h.sa,if_pos h.sb,if_neg (by omega),e1]
 simp only
 rw[if_neg (by omega),e2]
theorem PairsOk.turn{l:List Pair}(h:PairsOk l):PairsOk (turnP l):=⟨by rw[z8i];exact h.len,fun p hp=>by
 unfold turnP at hp
 obtain⟨q,hq,rfl⟩:=List.mem_map.1 hp
 exact⟨(h.sz q hq).2,(h.sz q hq).1⟩⟩
theorem MapOk.turn{m:Map}(h:MapOk m):MapOk (turnM m):=⟨h.mtis.turn,by show(m.2.1.map turnR).length≤_;rw[List.length_map];exact h.len,fun r hr=>by
 obtain⟨q,hq,rfl⟩:=List.mem_map.1 (show r∈m.2.1.map turnR from hr)
 exact⟨(h.rules q hq).text,(h.rules q hq).pairs.turn⟩⟩
theorem z147(p:Pair)(a b:zf)(h:z49 p a b=true):z49 (p.2.1,p.1,()) b a=true:=by
 unfold z49 at h⊢
 simp only[Bool.and_eq_true,beq_iff_eq] at h⊢
 exact⟨h.2.1,h.1,h.2.2.symm⟩
theorem z145(x y:Rule):z1o (turnR x) (turnR y)=z1o x y:=by
 unfold z1o turnR
 exact Bool.or_comm _ _
theorem zfb:∀(l prev:List Rule),z4z prev l→z4z (prev.map turnR) (l.map turnR)
 | [],_,_=>trivial
 |r::l,prev,⟨h1,h2⟩=>by
  refine⟨?_,?_⟩
  ·rw[List.any_map]
   rw[←h1]
   congr 1
   funext q
   exact z145 q r
  ·have:=zfb l (prev++ [r]) h2
   rw[List.map_append] at this
   exact this
theorem zpq{l:List Pair}(h:(z3v l).1=0):l.length≤256∧dupP [] l 0=none:=by
 unfold z3v at h
 split at h
 ·cases h
 ·rename_i h1
  split at h
  ·cases h
  ·rename_i h2;exact⟨by omega,h2⟩
theorem zu2{l:List Pair}:bij l=true↔(z3v l).1=0∧(z3v (turnP l)).1=0:=by unfold bij;exact decide_eq_true_iff
theorem zpx{x y:Spec}:∀{l:List Pair},valsC l x y=0↔∀p∈l,valC x p.1=0∧valC y p.2.1=0
 | []=>by simp [valsC]
 |p::r=>by
  simp only[valsC,List.mem_cons,forall_eq_or_imp]
  by_cases h1:valC x p.1=0
  ·rw[zT h1]
   simp only[Bool.not_true,zD]
   by_cases h2:valC y p.2.1=0
   ·rw[zT h2]
    simp only[Bool.not_true,zD]
    rw[zpx]
    simp [h1,h2]
   ·rw[zF h2]
    simp [h1,h2]
  ·rw[zF h1]
   simp [h1]
theorem z19r{r:Rule}{a b:zf}(h:Rule0 r a b)(hu:z2w r a b=true):Rule0 (turnR r) b a:=by
 have hk:r.1=1∨r.1=4∨r.1=5:=by
  unfold z2w at hu
  by_cases k1:r.1=1
  ·exact .inl k1
  by_cases k4:r.1=4
  ·exact .inr (.inl k4)
  by_cases k5:r.1=5
  ·exact .inr (.inr k5)
  rw[zF k1,zF k4,zF k5] at hu
  cases hu
 have e1:(turnR r).1=r.1:=rfl
 have e2:(turnR r).2.1=r.2.2.1:=rfl
 have e3:(turnR r).2.2.1=r.2.1:=rfl
 have e4:(turnR r).2.2.2.1=r.2.2.2.1:=rfl
 have e5:(turnR r).2.2.2.2.1=turnP r.2.2.2.2.1:=rfl
 refine⟨h.lo,h.hi,?_,?_,?_⟩
 ·unfold endsE
  rw[e1,e2,e3,zF (by omega:¬r.1=3),zF (by omega:¬r.1=2),h.hasA (by omega),h.hasB (by omega)]
  rfl
 ·have ht:=h.text
  unfold textE at ht⊢
  rw[e1,e4,e5,z8i]
  exact ht
 ·have hkd:=h.kind
  unfold kindC at hkd⊢
  unfold z2w at hu
  rw[e1,e2,e3,e4,e5]
  rcases hk with k|k|k
  ·rw[zT k,zC] at hu⊢
   rw[Bool.and_eq_true] at hu
   rw[hu.1];rfl
  ·rw[zF (by omega:¬r.1=1),zF (by omega:¬r.1=3),zT k] at hkd⊢
   simp only[zD,zC] at hkd⊢
   rw[Bool.and_comm]
   exact hkd
  ·rw[zF (by omega:¬r.1=1),zF (by omega:¬r.1=3),zF (by omega:¬r.1=4),zT k] at hkd⊢
   rw[zF (by omega:¬r.1=1),zF (by omega:¬r.1=4),zT k] at hu
   simp only[zD,zC] at hkd hu⊢
   have hb:=zu2.1 hu
   unfold zfr at hkd⊢
   rw[z8i,hb.2]
   rw[hb.1] at hkd
   cases hz:decide ((r.2.2.2.2.1.length:Int)=0) with
   |true=>rw[hz] at hkd;simp at hkd
   |false=>
    rw[hz] at hkd
    simp only[decide_true,Bool.not_true,Bool.or_self,zD] at hkd⊢
    rw[zpx] at hkd⊢
    intro p hp
    unfold turnP at hp
    obtain⟨q,hq,rfl⟩:=List.mem_map.1 hp
    exact⟨(hkd q hq).2,(hkd q hq).1⟩
theorem zzl{m:Map}{a b:zf}(h:invC m a b=true):Map0 (turnM m) b a:=by
 unfold invC at h
 simp only[Bool.and_eq_true,decide_eq_true_eq,List.all_eq_true] at h
 obtain⟨h1,h2,h3⟩:=h
 have h0:=z81.1 h1
 have hb:=zu2.1 h2
 obtain⟨l1,d1⟩:=zpq hb.2
 refine⟨h0.sb,h0.sa,l1,fun p hp=> ?_,d1,by show(m.2.1.map turnR).length≤_;rw[List.length_map];exact h0.len2,fun r hr=> ?_,?_⟩
 ·obtain⟨q,hq,rfl⟩:=List.mem_map.1 (show p∈m.1.map _ from hp)
  exact z147 q a b (h0.typed q hq)
 ·obtain⟨q,hq,rfl⟩:=List.mem_map.1 (show r∈m.2.1.map turnR from hr)
  exact zfi.2 (z19r (zfi.1 (h0.rules q hq)) (h3 q hq))
 ·exact zfb m.2.1 [] h0.twice
end Groat

namespace Groat
open Go.IntKind renaming wrap→zW,i64→zI,u8→zU
open Go Go.Ref
theorem z1dq(l:List Val)(no:Int)(t:ByteArray):(insV l no t).length=l.length+1:=by
 unfold insV
 rcases z4r no l 0 (Int.le_refl _) with⟨h1,_⟩|h1
 ·rw[h1,zT (by omega:(-1:Int)<0),zC,List.length_append];rfl
 ·rw[zF (by omega:¬idxGt no l 0<0),zD,List.length_append,List.length_take,List.length_cons,List.length_drop]
  omega
theorem z8j(m:Msg)(no:Int)(t:ByteArray):(withM m no t).2.1.length≤m.2.1.length+1:=by
 show(insV (dropV m.2.1 no) no t).length≤_
 rw[z1dq]
 have:=zvl m.2.1 no
 omega
theorem z1f3(m:Map)(t:ByteArray)(h:m.1.length≤maxLen):Q244 m t=some (zo m.1 t):=by
 unfold Q244 zjx
 dsimp only
 have:=loopI pair0 m.1 h (fun i (x:Pair) (s:Unit) K=>bif decide (x.1=t) then some (Sum.inl (x.2.1,true)) else K s) (fun _=>some (Sum.inr ()))
  (fun k i s=>za1 k t m.1 (m.1.length:Int) i) (fun k i s=>rfl) ()
 rw[this,zaa]
 unfold zo
 cases m.1.find? fun p=>decide (p.1=t)<;>rfl
def findR(m:Map)(no:Int):Option Rule:=m.2.1.find? fun r=>decide (r.2.1=no)
def findX(o:Option Rule):Option (Sum (Bool×Rule) Rule):=some (match o with
 |some r=> .inl (true,r)
 |none=> .inr rule0)
theorem zz0(no:Int):∀(l:List Rule) (i:Int),runI (fun i (x:Rule) (s:Unit) K=>(bif(decide (x.2.1=no)) then some (Sum.inl (true,x)) else K s)) (fun _=>some (Sum.inr rule0)) l i ()=findX (l.find? fun r=>decide (r.2.1=no))
 | [],i=>rfl
 |x::r,i=>by
  rw[runI,List.find?_cons]
  cases hx:decide (x.2.1=no) with
  |true=>rfl
  |false=>rw[zD];exact zz0 no r (i+1)
theorem z1an(m:Map)(no:Int)(h:m.2.1.length≤maxLen):Q243 m no=some (match findR m no with
 |some r=>(r,true)
 |none=>(rule0,false)):=by
 unfold Q243 zjv findR
 dsimp only
 have:=loopI rule0 m.2.1 h (fun i (x:Rule) (s:Unit) K=>(bif(decide (x.2.1=no)) then some (Sum.inl (true,x)) else K s)) (fun _=>some (Sum.inr rule0))
  (fun k i s=>za0 k no m.2.1 (m.2.1.length:Int) i rule0) (fun k i s=>rfl) ()
 rw[this,zz0]
 unfold findX
 cases m.2.1.find? fun r=>decide (r.2.1=no)<;>rfl
def z2s:List Rule→Msg→Msg
 | [],out=>out
 |r::l,out=>z2s l (bif decide (r.1=3) then withM out r.2.2.1 r.2.2.2.1 else out)
theorem z8p:∀(l:List Rule) (out:Msg),(z2s l out).2.1.length≤out.2.1.length+l.length
 | [],out=>Nat.le_refl _
 |r::l,out=>by
  rw[z2s,List.length_cons]
  cases decide (r.1=3) with
  |true=>rw[zC];have:=z8p l (withM out r.2.2.1 r.2.2.2.1);have:=z8j out r.2.2.1 r.2.2.2.1;omega
  |false=>rw[zD];have:=z8p l out;omega
theorem zb1{ρ:Type}(fin:Msg→Option ρ):∀(l:List Rule) (i:Int) (out:Msg),out.2.1.length+l.length≤1000000→
 runI (fun i (x:Rule) (s:Msg) K=>(bif(decide (x.1=(3:Int))) then((Q175 s x.2.2.1 x.2.2.2.1).bind fun r4=>K r4) else K s)) fin l i out=fin (z2s l out)
 | [],i,out,_=>rfl
 |r::l,i,out,h=>by
  simp only[List.length_cons] at h
  rw[runI,z2s]
  cases decide (r.1=3) with
  |true=>
   rw[zC,zC,zan out _ _ (by omega),zc]
   have:=z8j out r.2.2.1 r.2.2.2.1
   exact zb1 fin l (i+1) _ (by omega)
  |false=>
   rw[zD,zD]
   exact zb1 fin l (i+1) out (by omega)
def z57(m:Map)(b:zf):List Val→Msg→Sum (Fault×Msg) Msg
 | [],out=> .inr out
 |v::r,out=>match findR m v.1 with
  |none=> .inl ((9,v.1,()),out)
  |some q=>bif !decide ((zm q b v.2.1).2=0) then .inl (((zm q b v.2.1).2,v.1,()),out) else z57 m b r (bif !decide ((zm q b v.2.1).1.1=0) then withM out (zm q b v.2.1).1.1 (zm q b v.2.1).1.2.1 else out)
abbrev msg0:Msg:=(bs [],[],())
def zyx(o:Sum (Fault×Msg) Msg):Option (Sum (Msg×Fault×Msg) (Msg×Fault×Msg)):=some (match o with
 | .inl (f,out)=> .inl (msg0,f,out)
 | .inr out=> .inr (msg0,z13,out))
theorem z43{m:Map}{no:Int}{r:Rule}(h:findR m no=some r):r∈m.2.1∧r.2.1=no:=⟨List.mem_of_find?_eq_some h,by simpa using List.find?_some h⟩
theorem z8u(m:Map)(b:zf)(hm:MapOk m)(hb:b.2.2.1.length≤maxLen):∀(l:List Val) (i:Int) (out:Msg),out.2.1.length+l.length≤1000000→(∀v∈l,v.2.1.size≤1099511627776)→
 runI (fun i (x:Val) (s:Msg) K=>((Q243 m x.1).bind fun r5=>(bif(!r5.2) then some (Sum.inl (msg0,((9:Int),x.1,()),s)) else((Q205 r5.1 b x.2.1).bind fun r6=>(bif(!(decide (r6.2=(0:Int)))) then some (Sum.inl (msg0,(r6.2,x.1,()),s)) else(bif(!(decide (r6.1.1=(0:Int)))) then((Q175 s r6.1.1 r6.1.2.1).bind fun r7=>K r7) else K s)))))) (fun s=>some (Sum.inr (msg0,z13,s))) l i out=zyx (z57 m b l out)
 | [],i,out,_,_=>rfl
 |v::r,i,out,h,ht=>by
  simp only[List.length_cons] at h
  have hl:=hm.len
  have hv:=ht v List.mem_cons_self
  rw[runI,z1an m v.1 (by rw[zh];omega),zc,z57]
  cases hf:findR m v.1 with
  |none=>rfl
  |some q=>
   dsimp only
   obtain⟨q1,_⟩:=z43 hf
   have qp:=(hm.rules q q1).pairs.len
   rw[Bool.not_true,zD,zzy q b v.2.1 (by rw[zh];omega) hb (by rw[zh];omega),zc]
   generalize zm q b v.2.1=y
   cases decide (y.2=0) with
   |false=>rfl
   |true=>
    rw[Bool.not_true,zD,zD]
    cases decide (y.1.1=0) with
    |true=>
     rw[Bool.not_true,zD,zD]
     exact z8u m b hm hb r (i+1) out (by omega) (fun w hw=>ht w (List.mem_cons_of_mem _ hw))
    |false=>
     rw[Bool.not_false,zC,zC,zan out _ _ (by omega),zc]
     have:=z8j out y.1.1 y.1.2.1
     exact z8u m b hm hb r (i+1) _ (by omega) (fun w hw=>ht w (List.mem_cons_of_mem _ hw))
def z27(m:Map)(a b:zf)(x:Msg):Msg×Fault:=
 bif !decide ((mapC m a b).1=0) then(msg0,(1,-1,())) else bif !decide ((msgC a x).1=0) then(msg0,msgC a x) else bif !(zo m.1 x.1).2 then(msg0,(7,0,()))
 else match z57 m b x.2.1 (z2s m.2.1 ((zo m.1 x.1).1,[],())) with
  | .inl (f,_)=>(msg0,f)
  | .inr out=>(out,z13)
theorem zy8(m:Map)(a b:zf)(x:Msg)(hm:MapOk m)(hm2:m.2.1.length≤900000)(hx:MsgOk x)(hx2:x.2.1.length≤90000)(ha:a.2.2.1.length≤maxLen)(hb:b.2.2.1.length≤maxLen):Q242 m a b x=some (z27 m a b x):=by
 have hl:=hm.mtis.len
 unfold Q242 zjs z27
 rw[z4u m a b hm ha hb,zc]
 cases decide ((mapC m a b).1=0) with
 |false=>rfl
 |true=>
  rw[Bool.not_true,zD,zD,zkt a x ha hx,zc]
  cases decide ((msgC a x).1=0) with
  |false=>rfl
  |true=>
   rw[Bool.not_true,zD,zD,z1f3 m x.1 (by rw[zh];omega),zc]
   cases(zo m.1 x.1).2 with
   |false=>rfl
   |true=>
    rw[Bool.not_true,zD,zD]
    dsimp only
    have h1:=loopI rule0 m.2.1 (by rw[zh];omega) (fun i (x:Rule) (s:Msg) K=>(bif(decide (x.1=(3:Int))) then((Q175 s x.2.2.1 x.2.2.2.1).bind fun r4=>K r4) else K s)) (fun s=>some (m,b,x,msg0,z13,s))
     (fun k i s=>z9y k m.2.1 (m.2.1.length:Int) i m b x msg0 z13 s) (fun k i s=>rfl) ((zo m.1 x.1).1,[],())
    rw[h1,zb1 _ _ _ _ (by simp;omega),zc]
    unfold zjt
    dsimp only
    have hc:=z8p m.2.1 ((zo m.1 x.1).1,[],())
    have hc:(z2s m.2.1 ((zo m.1 x.1).1,[],())).2.1.length≤m.2.1.length:=by simpa using hc
    have h2:=loopI vnil x.2.1 (by rw[zh];omega) (fun i (x:Val) (s:Msg) K=>((Q243 m x.1).bind fun r5=>(bif(!r5.2) then some (Sum.inl (msg0,((9:Int),x.1,()),s)) else((Q205 r5.1 b x.2.1).bind fun r6=>(bif(!(decide (r6.2=(0:Int)))) then some (Sum.inl (msg0,(r6.2,x.1,()),s)) else(bif(!(decide (r6.1.1=(0:Int)))) then((Q175 s r6.1.1 r6.1.2.1).bind fun r7=>K r7) else K s)))))) (fun s=>some (Sum.inr (msg0,z13,s)))
     (fun k i s=>z9z k x.2.1 (x.2.1.length:Int) i m b msg0 z13 s) (fun k i s=>rfl) (z2s m.2.1 ((zo m.1 x.1).1,[],()))
    rw[h2,z8u m b hm hb _ _ _ (by omega) hx.txt]
    unfold zyx
    cases z57 m b x.2.1 (z2s m.2.1 ((zo m.1 x.1).1,[],())) with
    |inl p=>obtain⟨f,o⟩:=p;rfl
    |inr o=>rfl
end Groat

namespace Groat
open Go.IntKind renaming wrap→zW,i64→zI,u8→zU
open Go Go.Ref
abbrev Ris(l:List Val):Prop:=l.Pairwise fun x y=>x.1<y.1
def insR(no:Int)(t:ByteArray):List Val→List Val
 | []=>[(no,t,())]
 |x::r=>if no<x.1 then(no,t,())::x::r else x::insR no t r
theorem zkr(no:Int):∀(l:List Val) (i d:Int),0≤i→0≤d→idxGt no l (i+d)=if idxGt no l i<0 then-1 else idxGt no l i+d
 | [],i,d,_,_=>by unfold idxGt;rw[if_pos (by omega)]
 |x::r,i,d,hi,hd=>by
  unfold idxGt
  by_cases hx:no<x.1
  ·rw[if_pos hx,if_pos hx,if_neg (by omega)]
  ·rw[if_neg hx,if_neg hx,show i+d+1=(i+1)+d by omega]
   exact zkr no r (i+1) d (by omega) hd
theorem zub(no:Int)(t:ByteArray):∀l:List Val,insV l no t=insR no t l
 | []=>rfl
 |x::r=>by
  have ih:=zub no t r
  unfold insV at ih⊢
  unfold insR
  by_cases hx:no<x.1
  ·have:idxGt no (x::r) 0=0:=by unfold idxGt;rw[if_pos hx]
   rw[this,if_pos hx];rfl
  ·rw[if_neg hx,←ih]
   have h0:idxGt no (x::r) 0=idxGt no r (0+1):=by
    show(if no<x.1 then(0:Int) else idxGt no r (0+1))=_
    rw[if_neg hx]
   rw[h0,zkr no r 0 1 (by omega) (by omega)]
   rcases z4r no r 0 (Int.le_refl _) with⟨h1,_⟩|h1
   ·rw[h1,if_pos (by omega)];rfl
   ·rw[if_neg (by omega),zF (by omega:¬idxGt no r 0+1<0),zF (by omega:¬idxGt no r 0<0),zD,zD]
    have:(idxGt no r 0+1).toNat=(idxGt no r 0).toNat+1:=by omega
    rw[this];rfl
theorem zlw(no:Int)(t:ByteArray)(v:Val):∀l:List Val,v∈insR no t l↔v=(no,t,())∨v∈l
 | []=>by simp [insR]
 |x::r=>by
  unfold insR
  split
  ·simp
  ·rw[List.mem_cons,zlw no t v r,List.mem_cons]
   constructor
   ·rintro(h|h|h)
    ·exact .inr (.inl h)
    ·exact .inl h
    ·exact .inr (.inr h)
   ·rintro(h|h|h)
    ·exact .inr (.inl h)
    ·exact .inl h
    ·exact .inr (.inr h)
theorem zzf(no:Int)(t:ByteArray):∀{l:List Val},Ris l→(∀x∈l,x.1≠no)→Ris (insR no t l)
 | [],_,_=>by simp [insR,Ris]
 |x::r,h,hn=>by
  have hx:=hn x List.mem_cons_self
  rw[Ris,List.pairwise_cons] at h
  unfold insR
  split
  ·rename_i hlt
   refine List.pairwise_cons.2 ⟨fun y hy=> ?_,List.pairwise_cons.2 h⟩
   rcases List.mem_cons.1 hy with rfl|hy
   ·exact hlt
   ·have:=h.1 y hy
    show no<y.1
    omega
  ·rename_i hlt
   refine List.pairwise_cons.2 ⟨fun y hy=> ?_,zzf no t h.2 (fun z hz=>hn z (List.mem_cons_of_mem _ hz))⟩
   rcases(zlw no t y r).1 hy with rfl|hy
   ·show x.1<no
    omega
   ·exact h.1 y hy
theorem zvm{l:List Val}{no:Int}{v:Val}:v∈dropV l no↔v∈l∧v.1≠no:=by
 unfold dropV
 rw[List.mem_filter]
 simp
theorem z8k(m:Msg)(no:Int)(t:ByteArray)(v:Val):v∈(withM m no t).2.1↔v=(no,t,())∨(v∈m.2.1∧v.1≠no):=by
 show v∈insV (dropV m.2.1 no) no t↔_
 rw[zub,zlw,zvm]
theorem zft{m:Msg}(h:Ris m.2.1)(no:Int)(t:ByteArray):Ris (withM m no t).2.1:=by
 show Ris (insV (dropV m.2.1 no) no t)
 rw[zub]
 exact zzf no t (h.filter _) (fun x hx=>(zvm.1 hx).2)
theorem zuj:∀{l r:List Val},Ris l→Ris r→(∀v,v∈l↔v∈r)→l=r
 | [],[],_,_,_=>rfl
 | [],y::r,_,_,h=>by have:=(h y).2 List.mem_cons_self;cases this
 |x::l,[],_,_,h=>by have:=(h x).1 List.mem_cons_self;cases this
 |x::l,y::r,hl,hr,h=>by
  have hl':=List.pairwise_cons.1 hl
  have hr':=List.pairwise_cons.1 hr
  have e:x=y:=by
   rcases List.mem_cons.1 ((h x).1 List.mem_cons_self) with e|e
   ·exact e
   ·rcases List.mem_cons.1 ((h y).2 List.mem_cons_self) with e2|e2
    ·exact e2.symm
    ·have a1:=hr'.1 x e
     have a2:=hl'.1 y e2
     omega
  subst e
  congr 1
  refine zuj hl'.2 hr'.2 fun v=>⟨fun hv=> ?_,fun hv=> ?_⟩
  ·rcases List.mem_cons.1 ((h v).1 (List.mem_cons_of_mem _ hv)) with e|e
   ·subst e;have:=hl'.1 _ hv;omega
   ·exact e
  ·rcases List.mem_cons.1 ((h v).2 (List.mem_cons_of_mem _ hv)) with e|e
   ·subst e;have:=hr'.1 _ hv;omega
   ·exact e
def z3s:List Val→Msg→Msg
 | [],out=>out
 |v::l,out=>z3s l (withM out v.1 v.2.1)
def Apart(l:List Val):Prop:=l.Pairwise fun x y=>x.1≠y.1
theorem zkv:∀(l:List Val) (out:Msg),(z3s l out).1=out.1
 | [],out=>rfl
 |v::l,out=>zkv l _
theorem zpj:∀(l:List Val) {out:Msg},Ris out.2.1→Ris (z3s l out).2.1
 | [],out,h=>h
 |v::l,out,h=>zpj l (zft h v.1 v.2.1)
theorem zpi:∀(l:List Val) (out:Msg),Apart l→(∀v∈l,∀w∈out.2.1,v.1≠w.1)→∀v,v∈(z3s l out).2.1↔v∈out.2.1∨v∈l
 | [],out,_,_,v=>by simp [z3s]
 |x::l,out,ha,hd,v=>by
  have ha':=List.pairwise_cons.1 ha
  have hx:(x.1,x.2.1,())=x:=rfl
  rw[z3s,zpi l _ ha'.2 (fun y hy w hw=> ?_) v,z8k,hx,List.mem_cons]
  ·constructor
   ·rintro((h|h)|h)
    ·exact .inr (.inl h)
    ·exact .inl h.1
    ·exact .inr (.inr h)
   ·rintro(h|h|h)
    ·exact .inl (.inr ⟨h,fun e=>hd x List.mem_cons_self v h e.symm⟩)
    ·exact .inl (.inl h)
    ·exact .inr h
  ·rcases(z8k out x.1 x.2.1 w).1 hw with e|e
   ·rw[e];exact fun h=>ha'.1 y hy h.symm
   ·exact hd y (List.mem_cons_of_mem _ hy) w e.1
theorem zbl:∀(l r:List Val) (out:Msg),z3s (l++r) out=z3s r (z3s l out)
 | [],r,out=>rfl
 |v::l,r,out=>zbl l r _
def z16(l:List Rule):List Val:=(l.filter fun r=>decide (r.1=3)).map fun r=>(r.2.2.1,r.2.2.2.1,())
theorem z8q:∀(l:List Rule) (out:Msg),z2s l out=z3s (z16 l) out
 | [],out=>rfl
 |r::l,out=>by
  rw[z2s]
  unfold z16
  rw[List.filter_cons]
  cases decide (r.1=3) with
  |true=>exact z8q l _
  |false=>exact z8q l _
def z17(m:Map)(b:zf):List Val→Sum Fault (List Val)
 | []=> .inr []
 |v::r=>match findR m v.1 with
  |none=> .inl (9,v.1,())
  |some q=>bif !decide ((zm q b v.2.1).2=0) then .inl ((zm q b v.2.1).2,v.1,()) else match z17 m b r with
   | .inl f=> .inl f
   | .inr ys=> .inr ((zm q b v.2.1).1::ys)
def some0(l:List Val):List Val:=l.filter fun v=> !decide (v.1=0)
theorem z8t(m:Map)(b:zf):∀(l:List Val) (out:Msg),(∃f o,z57 m b l out= .inl (f,o)∧z17 m b l= .inl f)∨(∃ys,z57 m b l out= .inr (z3s (some0 ys) out)∧z17 m b l= .inr ys)
 | [],out=> .inr ⟨[],rfl,rfl⟩
 |v::r,out=>by
  rw[z57,z17]
  cases findR m v.1 with
  |none=>exact .inl ⟨_,_,rfl,rfl⟩
  |some q=>
   dsimp only
   generalize zm q b v.2.1=y
   cases decide (y.2=0) with
   |false=>exact .inl ⟨_,_,rfl,rfl⟩
   |true=>
    rw[Bool.not_true,zD,zD]
    cases hz:decide (y.1.1=0) with
    |true=>
     rw[Bool.not_true,zD]
     rcases z8t m b r out with⟨f,o,h1,h2⟩|⟨ys,h1,h2⟩
     ·exact .inl ⟨f,o,h1,by rw[h2]⟩
     ·refine .inr ⟨y.1::ys,?_,by rw[h2]⟩
      rw[h1]
      have:some0 (y.1::ys)=some0 ys:=by unfold some0;rw[List.filter_cons,hz];rfl
      rw[this]
    |false=>
     rw[Bool.not_false,zC]
     rcases z8t m b r (withM out y.1.1 y.1.2.1) with⟨f,o,h1,h2⟩|⟨ys,h1,h2⟩
     ·exact .inl ⟨f,o,h1,by rw[h2]⟩
     ·refine .inr ⟨y.1::ys,?_,by rw[h2]⟩
      rw[h1]
      have:some0 (y.1::ys)=y.1::some0 ys:=by unfold some0;rw[List.filter_cons,hz];rfl
      rw[this]
      rfl
theorem z39{m:Map}{b:zf}:∀{l ys:List Val},z17 m b l= .inr ys→∀y∈ys,∃v∈l,∃q,findR m v.1=some q∧(zm q b v.2.1).2=0∧y=(zm q b v.2.1).1
 | [],ys,h,y,hy=>by cases h;cases hy
 |v::r,ys,h,y,hy=>by
  rw[z17] at h
  cases hf:findR m v.1 with
  |none=>rw[hf] at h;cases h
  |some q=>
   rw[hf] at h
   dsimp only at h
   cases hz:decide ((zm q b v.2.1).2=0) with
   |false=>rw[hz] at h;cases h
   |true=>
    rw[hz,Bool.not_true,zD] at h
    cases hr:z17 m b r with
    |inl f=>rw[hr] at h;cases h
    |inr zs=>
     rw[hr] at h
     cases h
     rcases List.mem_cons.1 hy with rfl|hy
     ·exact⟨v,List.mem_cons_self,q,hf,of_decide_eq_true hz,rfl⟩
     ·obtain⟨w,hw,q',g⟩:=z39 hr y hy
      exact⟨w,List.mem_cons_of_mem _ hw,q',g⟩
theorem z144(x y:Rule):z1o x y=z1o y x:=by
 unfold z1o
 have e1:(!decide (x.2.1=0)&&decide (x.2.1=y.2.1))=(!decide (y.2.1=0)&&decide (y.2.1=x.2.1)):=by
  by_cases h:x.2.1=y.2.1
  ·rw[h]
  ·rw[zF h,zF (show¬y.2.1=x.2.1 from fun e=>h e.symm),Bool.and_false,Bool.and_false]
 have e2:(!decide (x.2.2.1=0)&&decide (x.2.2.1=y.2.2.1))=(!decide (y.2.2.1=0)&&decide (y.2.2.1=x.2.2.1)):=by
  by_cases h:x.2.2.1=y.2.2.1
  ·rw[h]
  ·rw[zF h,zF (show¬y.2.2.1=x.2.2.1 from fun e=>h e.symm),Bool.and_false,Bool.and_false]
 rw[e1,e2]
theorem zfa:∀{l prev:List Rule},z4z prev l→l.Pairwise (fun x y=>z1o x y=false)∧∀p∈prev,∀x∈l,z1o p x=false
 | [],prev,h=>⟨List.Pairwise.nil,fun _ _ x hx=>by cases hx⟩
 |r::l,prev,h=>by
  obtain⟨h1,h2⟩:=h
  obtain⟨i1,i2⟩:=zfa h2
  have hp:∀p∈prev,z1o p r=false:=fun p hp=>by
   have:=List.any_eq_false.1 h1 p hp
   simpa using this
  refine⟨List.pairwise_cons.2 ⟨fun y hy=>i2 r (by simp) y hy,i1⟩,fun p hp' x hx=> ?_⟩
  rcases List.mem_cons.1 hx with rfl|hx
  ·exact hp p hp'
  ·exact i2 p (by simp [hp']) x hx
theorem zfs{x y:Rule}(h:z1o x y=false)(hx:x.2.2.1≠0):x.2.2.1≠y.2.2.1:=by
 intro e
 unfold z1o at h
 rw[Bool.or_eq_false_iff] at h
 have:=h.2
 rw[zF hx,zT e] at this
 cases this
theorem zm0{l:List Rule}(h:l.Pairwise fun x y=>z1o x y=false):∀x∈l,∀y∈l,x≠y→z1o x y=false:=by
 induction l with
 |nil=>intro x hx;cases hx
 |cons r l ih=>
  obtain⟨h1,h2⟩:=List.pairwise_cons.1 h
  intro x hx y hy hne
  rcases List.mem_cons.1 hx with e1|hx1
  ·rcases List.mem_cons.1 hy with e2|hy1
   ·exact absurd (e1.trans e2.symm) hne
   ·rw[e1];exact h1 y hy1
  ·rcases List.mem_cons.1 hy with e2|hy1
   ·rw[z144,e2];exact h1 x hx1
   ·exact ih h2 x hx1 y hy1 hne
end Groat

namespace Groat
open Go.IntKind renaming wrap→zW,i64→zI,u8→zU
open Go Go.Ref
theorem z26{s:zf}:∀{l:List Val} {last:Int},z2y s l last=none↔(∀v∈l,hasS s v.1=true∧valC (getS s v.1) v.2.1=0)∧Ris l∧∀v∈l,last<v.1
 | [],last=>by simp [z2y,Ris]
 |x::r,last=>by
  rw[z2y]
  by_cases h1:x.1≤last
  ·rw[zT h1,zC]
   refine⟨fun h=>(by cases h),fun h=> ?_⟩
   have:=h.2.2 x List.mem_cons_self
   omega
  rw[zF h1,zD]
  cases h2:hasS s x.1 with
  |false=>
   refine⟨fun h=>(by cases h),fun h=> ?_⟩
   have:=(h.1 x List.mem_cons_self).1
   rw[h2] at this;cases this
  |true=>
   rw[Bool.not_true,zD]
   by_cases h3:valC (getS s x.1) x.2.1=0
   ·rw[zT h3,Bool.not_true,zD,z26]
    constructor
    ·rintro⟨g1,g2,g3⟩
     refine⟨fun v hv=> ?_,List.pairwise_cons.2 ⟨g3,g2⟩,fun v hv=> ?_⟩
     ·rcases List.mem_cons.1 hv with rfl|hv
      ·exact⟨h2,h3⟩
      ·exact g1 v hv
     ·rcases List.mem_cons.1 hv with rfl|hv
      ·omega
      ·have:=g3 v hv;omega
    ·rintro⟨g1,g2,g3⟩
     have g2:=List.pairwise_cons.1 g2
     exact⟨fun v hv=>g1 v (List.mem_cons_of_mem _ hv),g2.2,g2.1⟩
   ·rw[zF h3,Bool.not_false,zC]
    refine⟨fun h=>(by cases h),fun h=> ?_⟩
    exact absurd (h.1 x List.mem_cons_self).2 h3
theorem zew{s:zf}:∀{l:List Val} {last:Int} {f:Fault},z2y s l last=some f→f.1≠0
 | [],last,f,h=>by cases h
 |x::r,last,f,h=>by
  rw[z2y] at h
  cases h1:decide (x.1≤last) with
  |true=>rw[h1] at h;cases h;exact(by decide:(11:Int)≠0)
  |false=>
   rw[h1,zD] at h
   cases h2:hasS s x.1 with
   |false=>rw[h2] at h;cases h;exact(by decide:(9:Int)≠0)
   |true=>
    rw[h2,Bool.not_true,zD] at h
    by_cases h3:valC (getS s x.1) x.2.1=0
    ·rw[zT h3,Bool.not_true,zD] at h
     exact zew h
    ·rw[zF h3,Bool.not_false,zC] at h
     cases h
     exact h3
structure Msg0(s:zf)(m:Msg):Prop where
 sch:(z1a s).1=0
 right:z1c m.1=true
 ver:verM m.1=s.2.1
 flds:z2y s m.2.1 0=none
theorem z82{s:zf}{m:Msg}:(msgC s m).1=0↔Msg0 s m:=by
 unfold msgC
 by_cases h1:(z1a s).1=0
 ·rw[zT h1,Bool.not_true,zD]
  cases h2:z1c m.1 with
  |false=>exact⟨fun h=>absurd h (show¬(7:Int)=0 by decide),fun h=>by have:=h.right;rw[h2] at this;cases this⟩
  |true=>
   rw[Bool.not_true,zD]
   by_cases h3:verM m.1=s.2.1
   ·rw[zT h3,Bool.not_true,zD]
    cases h4:z2y s m.2.1 0 with
    |none=>exact⟨fun _=>⟨h1,h2,h3,h4⟩,fun _=>rfl⟩
    |some f=>exact⟨fun h=>absurd h (zew h4),fun h=>by have:=h.flds;rw[h4] at this;cases this⟩
   ·rw[zF h3]
    exact⟨fun h=>absurd h (show¬(7:Int)=0 by decide),fun h=>absurd h.ver h3⟩
 ·rw[zF h1]
  exact⟨fun h=>absurd h (show¬(1:Int)=0 by decide),fun h=>absurd h.sch h1⟩
theorem Msg0.eq{s:zf}{m:Msg}(h:Msg0 s m):msgC s m=z13:=by
 unfold msgC
 rw[zT h.sch,h.right,zT h.ver,h.flds];rfl
theorem z3p{s:zf}(h:Okay s){no:Int}(hh:hasS s no=true):2≤no∧no≤128:=by
 have:=(z6b (z6k h hh)).1
 rw[(zb7 hh).2] at this
 exact this
theorem z6e{q:Rule}{b:zf}{t:ByteArray}(h:(zm q b t).2=0)(hz:(zm q b t).1.1≠0):q.1≠2∧(zm q b t).1.1=q.2.2.1:=by
 unfold zm at h hz⊢
 by_cases k1:q.1=1
 ·rw[zT k1,zC];exact⟨by omega,rfl⟩
 rw[zF k1,zD] at h hz⊢
 by_cases k2:q.1=2
 ·rw[zT k2,zC] at hz;exact absurd rfl hz
 rw[zF k2,zD] at h hz⊢
 refine⟨k2,?_⟩
 by_cases k3:q.1=3
 ·rw[zT k3,zC]
 rw[zF k3,zD] at h hz⊢
 by_cases k4:q.1=4
 ·rw[zT k4,zC] at h hz⊢
  cases hs:hasS b q.2.2.1 with
  |false=>rw[hs] at h;cases h
  |true=>
   rw[hs] at h
   rw[Bool.not_true,zD] at h⊢
   cases hp:(padD t (getS b q.2.2.1).2.2.2.1).2 with
   |false=>rw[hp] at h;cases h
   |true=>rfl
 rw[zF k4,zD] at h hz⊢
 by_cases k5:q.1=5
 ·rw[zT k5,zC] at h hz⊢
  cases hp:(zo q.2.2.2.2.1 t).2 with
  |false=>rw[hp] at h;cases h
  |true=>rfl
 ·rw[zF k5,zD] at hz;exact absurd rfl hz
theorem z5a{l:List Val}{v:Val}:v∈some0 l↔v∈l∧v.1≠0:=by
 unfold some0
 rw[List.mem_filter]
 simp
section
variable {m:Map} {a b:zf}
theorem Map0.pairs(h:Map0 m a b):m.2.1.Pairwise fun x y=>z1o x y=false:=(zfa h.twice).1
theorem Map0.okA(h:Map0 m a b):Okay a:=(z2b a).1 h.sa
theorem Map0.okB(h:Map0 m a b):Okay b:=(z2b b).1 h.sb
theorem Map0.to(h:Map0 m a b){r:Rule}(hr:r∈m.2.1)(k:r.1≠2):hasS b r.2.2.1=true:=(zet (z6x (h.rules r hr)).2.1).2.2.2 k
theorem Map0.to0(h:Map0 m a b){r:Rule}(hr:r∈m.2.1)(k:r.1≠2):r.2.2.1≠0:=by
 have:=z3p h.okB (h.to hr k)
 omega
theorem z10l(h:Map0 m a b):∀{l ys:List Val},Ris l→z17 m b l= .inr ys→Apart (some0 ys)
 | [],ys,_,hy=>by cases hy;exact List.Pairwise.nil
 |v::r,ys,hr,hy=>by
  rw[z17] at hy
  have hr:=List.pairwise_cons.1 hr
  cases hf:findR m v.1 with
  |none=>rw[hf] at hy;cases hy
  |some q=>
   rw[hf] at hy
   dsimp only at hy
   cases hz:decide ((zm q b v.2.1).2=0) with
   |false=>rw[hz] at hy;cases hy
   |true=>
    rw[hz,Bool.not_true,zD] at hy
    cases hv:z17 m b r with
    |inl f=>rw[hv] at hy;cases hy
    |inr zs=>
     rw[hv] at hy
     cases hy
     have ih:=z10l h hr.2 hv
     unfold some0 at ih⊢
     rw[List.filter_cons]
     split
     ·rename_i hnz
      have hnz:(zm q b v.2.1).1.1≠0:=by simpa using hnz
      refine List.pairwise_cons.2 ⟨fun z hzm=> ?_,ih⟩
      obtain⟨z1,z2⟩:=z5a.1 hzm
      obtain⟨w,hw,q',hf',h0',rfl⟩:=z39 hv z z1
      obtain⟨a1,a2⟩:=z6e (of_decide_eq_true hz) hnz
      obtain⟨b1,b2⟩:=z6e h0' z2
      rw[a2,b2]
      obtain⟨qm,qf⟩:=z43 hf
      obtain⟨qm',qf'⟩:=z43 hf'
      have hlt:=hr.1 w hw
      have hne:q≠q':=fun e=>by subst e;omega
      exact zfs (zm0 h.pairs q qm q' qm' hne) (h.to0 qm a1)
     ·exact ih
theorem z4i{l:List Rule}{v:Val}:v∈z16 l↔∃r∈l,r.1=3∧v=(r.2.2.1,r.2.2.2.1,()):=by
 unfold z16
 rw[List.mem_map]
 constructor
 ·rintro⟨r,hr,rfl⟩
  rw[List.mem_filter] at hr
  exact⟨r,hr.1,of_decide_eq_true hr.2,rfl⟩
 ·rintro⟨r,hr,k,rfl⟩
  exact⟨r,List.mem_filter.2 ⟨hr,zT k⟩,rfl⟩
theorem zyp(h:Map0 m a b):Apart (z16 m.2.1):=by
 unfold z16
 refine List.pairwise_map.2 ?_
 refine List.Pairwise.imp_of_mem ?_ (h.pairs.filter _)
 intro x y hx hy hxy
 have hx:=List.mem_filter.1 hx
 have k:x.1=3:=of_decide_eq_true hx.2
 exact zfs hxy (h.to0 hx.1 (by omega))
theorem z10w(h:Map0 m a b){l ys:List Val}(hl:∀v∈l,hasS a v.1=true)(hy:z17 m b l= .inr ys):∀c∈z16 m.2.1,∀y∈some0 ys,c.1≠y.1:=by
 intro c hc y hym
 obtain⟨r,hr,k,rfl⟩:=z4i.1 hc
 obtain⟨y1,y2⟩:=z5a.1 hym
 obtain⟨w,hw,q,hf,h0,rfl⟩:=z39 hy y y1
 obtain⟨b1,b2⟩:=z6e h0 y2
 rw[b2]
 obtain⟨qm,qf⟩:=z43 hf
 have hwr:=z3p h.okA (hl w hw)
 have hz:=(zet (z6x (h.rules r hr)).2.1).1 k
 have hne:r≠q:=fun e=>by subst e;omega
 exact zfs (zm0 h.pairs r hr q qm hne) (h.to0 hr (by omega))
theorem zuw(h:Map0 m a b){l ys:List Val}(hr:Ris l)(hl:∀v∈l,hasS a v.1=true)(hy:z17 m b l= .inr ys):Apart (z16 m.2.1++some0 ys):=
 List.pairwise_append.2 ⟨zyp h,z10l h hr hy,z10w h hl hy⟩
theorem zux(h:Map0 m a b){l ys:List Val}(hy:z17 m b l= .inr ys):∀v∈z16 m.2.1++some0 ys,hasS b v.1=true:=by
 intro v hv
 rcases List.mem_append.1 hv with hv|hv
 ·obtain⟨r,hr,k,rfl⟩:=z4i.1 hv
  exact h.to hr (by omega)
 ·obtain⟨y1,y2⟩:=z5a.1 hv
  obtain⟨w,hw,q,hf,h0,rfl⟩:=z39 hy v y1
  obtain⟨b1,b2⟩:=z6e h0 y2
  rw[b2]
  exact h.to (z43 hf).1 b1
end
def z1v(vs:List Val):Nat→Nat→List Val
 |0,_=>[]
 |n+1,k=>(vs.filter fun v=>decide (v.1=(k:Int)))++z1v vs n (k+1)
theorem z6t{vs:List Val}{v:Val}:∀{n k:Nat},v∈z1v vs n k↔v∈vs∧(k:Int)≤v.1∧v.1<((k+n:Nat):Int)
 |0,k=>by simp only[z1v,List.not_mem_nil,false_iff];omega
 |n+1,k=>by
  rw[z1v,List.mem_append,List.mem_filter,decide_eq_true_eq,z6t]
  constructor
  ·rintro(⟨h1,h2⟩|⟨h1,h2,h3⟩)
   ·exact⟨h1,by omega,by omega⟩
   ·exact⟨h1,by omega,by omega⟩
  ·rintro⟨h1,h2,h3⟩
   by_cases e:v.1=(k:Int)
   ·exact .inl ⟨h1,e⟩
   ·exact .inr ⟨h1,by omega,by omega⟩
theorem zax{vs:List Val}(h:Apart (some0 vs)):∀(n k:Nat),1≤k→Ris (z1v vs n k)
 |0,k,_=>List.Pairwise.nil
 |n+1,k,hk=>by
  rw[z1v]
  refine List.pairwise_append.2 ⟨?_,zax h n (k+1) (by omega),fun x hx y hy=> ?_⟩
  ·have e:(vs.filter fun v=>decide (v.1=(k:Int)))=(some0 vs).filter fun v=>decide (v.1=(k:Int)):=by
    unfold some0
    rw[List.filter_filter]
    congr 1
    funext v
    by_cases hv:v.1=(k:Int)
    ·rw[zT hv,zF (by omega:¬v.1=0)];rfl
    ·rw[zF hv];rfl
   rw[e]
   refine List.Pairwise.imp_of_mem ?_ (h.filter _)
   intro x y hx hy hne
   have h1:=of_decide_eq_true (List.mem_filter.1 hx).2
   have h2:=of_decide_eq_true (List.mem_filter.1 hy).2
   omega
  ·have h1:=of_decide_eq_true (List.mem_filter.1 hx).2
   have h2:=(z6t.1 hy).2.1
   omega
def zps(m:Map)(a b:zf)(x:Msg):Msg×Fault:=
 bif !decide ((mapC m a b).1=0) then(msg0,(1,-1,())) else bif !decide ((msgC a x).1=0) then(msg0,msgC a x) else bif !(zo m.1 x.1).2 then(msg0,(7,0,()))
 else match z17 m b x.2.1 with
  | .inl f=>(msg0,f)
  | .inr ys=>(((zo m.1 x.1).1,z1v (ys++z16 m.2.1) 127 2,()),z13)
theorem zfn(l r:List Val):some0 (l++r)=some0 l++some0 r:=by unfold some0;rw[List.filter_append]
theorem zfo{m:Map}{a b:zf}(h:Map0 m a b):some0 (z16 m.2.1)=z16 m.2.1:=by
 unfold some0
 refine List.filter_eq_self.2 fun v hv=> ?_
 obtain⟨r,hr,k,rfl⟩:=z4i.1 hv
 have:=h.to0 hr (by omega)
 simpa using this
theorem zog{l r:List Val}(h:Apart (l++r)):Apart (r++l):=by
 obtain⟨h1,h2,h3⟩:=List.pairwise_append.1 h
 exact List.pairwise_append.2 ⟨h2,h1,fun x hx y hy e=>h3 y hy x hx e.symm⟩
theorem z17s{m:Map}{a b:zf}(h:Map0 m a b){l ys:List Val}(hr:Ris l)(hl:∀v∈l,hasS a v.1=true)(hy:z17 m b l= .inr ys)(t:ByteArray):
 z3s (some0 ys) (z2s m.2.1 (t,[],()))=(t,z1v (ys++z16 m.2.1) 127 2,()):=by
 rw[z8q,←zbl]
 have hap:=zuw h hr hl hy
 have hs:some0 (ys++z16 m.2.1)=some0 ys++z16 m.2.1:=by rw[zfn,zfo h]
 refine z1hp.2 ⟨zkv _ _,?_⟩
 refine zuj (zpj _ List.Pairwise.nil) (zax (by rw[hs];exact zog hap) 127 2 (by omega)) fun v=> ?_
 rw[zpi _ _ hap (fun _ _ w hw=>by cases hw) v,z6t]
 constructor
 ·rintro(hv|hv)
  ·cases hv
  ·have hb:=z3p h.okB (zux h hy v hv)
   refine⟨?_,by omega,by omega⟩
   rcases List.mem_append.1 hv with hv|hv
   ·exact List.mem_append_right _ hv
   ·exact List.mem_append_left _ (z5a.1 hv).1
 ·rintro⟨hv,h1,h2⟩
  right
  rcases List.mem_append.1 hv with hv|hv
  ·exact List.mem_append_right _ (z5a.2 ⟨hv,by omega⟩)
  ·exact List.mem_append_left _ hv
theorem zpt(m:Map)(a b:zf)(x:Msg):z27 m a b x=zps m a b x:=by
 unfold z27 zps
 by_cases h1:(mapC m a b).1=0
 ·rw[zT h1,Bool.not_true,zD,zD]
  by_cases h2:(msgC a x).1=0
  ·rw[zT h2,Bool.not_true,zD,zD]
   cases(zo m.1 x.1).2 with
   |false=>rfl
   |true=>
    rw[Bool.not_true,zD,zD]
    obtain⟨g1,g2,g3⟩:=z26.1 (z82.1 h2).flds
    rcases z8t m b x.2.1 (z2s m.2.1 ((zo m.1 x.1).1,[],())) with⟨f,o,e1,e2⟩|⟨ys,e1,e2⟩
    ·rw[e1,e2]
    ·rw[e1,e2]
     dsimp only
     rw[z17s (z81.1 h1) g2 (fun v hv=>(g1 v hv).1) e2]
  ·rw[zF h2];rfl
 ·rw[zF h1];rfl
end Groat

namespace Groat
open Go.IntKind renaming wrap→zW,i64→zI,u8→zU
open Go Go.Ref
abbrev tSpec:Ty:= .pair (.int .i64) (.pair (.int .i64) (.pair (.int .i64) (.pair (.int .i64) (.pair (.int .i64) .unit))))
abbrev z1hy:Ty:= .pair (.int .i64) (.pair (.int .i64) (.pair (.sl 0 tSpec) .unit))
end Groat

namespace Groat
open Go.IntKind renaming wrap→zW,i64→zI,u8→zU
open Go Go.Ref
abbrev tPair:Ty:= .pair .str (.pair .str .unit)
abbrev tRule:Ty:= .pair (.int .i64) (.pair (.int .i64) (.pair (.int .i64) (.pair .str (.pair (.sl 0 tPair) .unit))))
abbrev tMap:Ty:= .pair (.sl 0 tPair) (.pair (.sl 0 tRule) .unit)
def small(n:Nat)(l:List Pair):Bool:=l.all fun p=> !decide ((n:Int)<(p.1.size:Int))&& !decide ((n:Int)<(p.2.1.size:Int))
theorem z101{n:Nat}{l:List Pair}(hn:n≤1200)(h:small n l=true):∀p∈l,p.1.size≤1099511627776∧p.2.1.size≤1099511627776:=fun p hp=>by
 have:=List.all_eq_true.1 h p hp
 simp only[Bool.and_eq_true,Bool.not_eq_true',decide_eq_false_iff_not] at this
 omega
def grR(t:Bool):Option (Sum Bool Unit):=some (bif t then .inr () else .inl true)
theorem z18q:∀(l:List Pair) (i:Int),runI (fun i (p:Pair) (s:Unit) K=>bif(decide (1200<((p.1).size:Int))) then some (Sum.inl true) else(bif(decide (1200<((p.2.1).size:Int))) then some (Sum.inl true) else K s)) (fun _=>some (Sum.inr ())) l i ()=grR (small 1200 l)
 | [],i=>rfl
 |p::r,i=>by
  simp only[runI,small,List.all_cons]
  by_cases h1:(1200:Int)<(p.1.size:Int)
  ·rw[zT h1,zT (show((1200:Nat):Int)<(p.1.size:Int) from h1)];rfl
  ·rw[zF h1,zF (show¬((1200:Nat):Int)<(p.1.size:Int) from h1)]
   by_cases h2:(1200:Int)<(p.2.1.size:Int)
   ·rw[zT h2,zT (show((1200:Nat):Int)<(p.2.1.size:Int) from h2)];rfl
   ·rw[zF h2,zF (show¬((1200:Nat):Int)<(p.2.1.size:Int) from h2)]
    exact z18q r (i+1)
def z5m(r:Rule):Bool:=decide ((1200:Int)<(r.2.2.2.1.size:Int))||(decide ((300:Int)<(r.2.2.2.2.1.length:Int))|| !small 1200 r.2.2.2.2.1)
theorem z12x(r:Rule)(h:r.2.2.2.2.1.length≤maxLen):Q128 r=some (z5m r):=by
 unfold Q128 zga z5m
 cases decide ((1200:Int)<(r.2.2.2.1.size:Int)) with
 |true=>rfl
 |false=>
  cases decide ((300:Int)<(r.2.2.2.2.1.length:Int)) with
  |true=>rfl
  |false=>
   simp only[zD,Bool.false_or]
   have:=loopJ pair0 r.2.2.2.2.1 h (fun i (p:Pair) (s:Unit) K=>bif(decide (1200<((p.1).size:Int))) then some (Sum.inl true) else(bif(decide (1200<((p.2.1).size:Int))) then some (Sum.inl true) else K s)) (fun _=>some (Sum.inr ()))
    (fun k i s=>z4b k i r) (fun k i s h0 h1=>by
      show z4b (k+1) i r=_
      conv=>lhs;unfold z4b z93
      rw[zT h1,zC,zr h0 h1,zr h0 h1]
      rfl) (fun k s=>by
      show z4b (k+1) r.2.2.2.2.1.length r=_
      conv=>lhs;unfold z4b z93
      rw[zF (by omega),zD]) ()
   rw[this,z18q]
   unfold grR
   cases small 1200 r.2.2.2.2.1<;>rfl
theorem z18r{r:Rule}(h:z5m r=false):RuleOk r:=by
 unfold z5m at h
 simp only[Bool.or_eq_false_iff,decide_eq_false_iff_not,Bool.not_eq_false'] at h
 obtain⟨h1,h2,h3⟩:=h
 exact⟨by omega,by omega,z101 (by omega) h3⟩
theorem z18p(m:Map):∀(l:List Pair) (i:Int),runI (fun i (p:Pair) (s:Unit) K=>bif(decide (100<((p.1).size:Int))) then some (Sum.inl (true,m)) else(bif(decide (100<((p.2.1).size:Int))) then some (Sum.inl (true,m)) else K s)) (fun _=>some (Sum.inr m)) l i ()=some (bif small 100 l then .inr m else .inl (true,m))
 | [],i=>rfl
 |p::r,i=>by
  simp only[runI,small,List.all_cons]
  by_cases h1:(100:Int)<(p.1.size:Int)
  ·rw[zT h1,zT (show((100:Nat):Int)<(p.1.size:Int) from h1)];rfl
  ·rw[zF h1,zF (show¬((100:Nat):Int)<(p.1.size:Int) from h1)]
   by_cases h2:(100:Int)<(p.2.1.size:Int)
   ·rw[zT h2,zT (show((100:Nat):Int)<(p.2.1.size:Int) from h2)];rfl
   ·rw[zF h2,zF (show¬((100:Nat):Int)<(p.2.1.size:Int) from h2)]
    exact z18p m r (i+1)
theorem z18o:∀(l:List Rule) (i:Int),(∀r∈l,r.2.2.2.2.1.length≤maxLen)→runI (fun i (x:Rule) (s:Unit) K=>((Q128 x).bind fun r1=>(bif r1 then some (Sum.inl true) else K s))) (fun _=>some (Sum.inr ())) l i ()=some (bif l.any z5m then Sum.inl true else Sum.inr ())
 | [],i,_=>rfl
 |r::l,i,h=>by
  simp only[runI,List.any_cons]
  rw[z12x r (h r List.mem_cons_self),Option.bind_some]
  cases z5m r with
  |true=>rfl
  |false=>exact z18o l (i+1) fun q hq=>h q (List.mem_cons_of_mem _ hq)
def z6h(m:Map):Bool:=decide ((300:Int)<(m.1.length:Int))||(decide ((300:Int)<(m.2.1.length:Int))||(!small 100 m.1||m.2.1.any z5m))
theorem z12y(m:Map)(h1:m.1.length≤maxLen)(h2:m.2.1.length≤maxLen)(h3:∀r∈m.2.1,r.2.2.2.2.1.length≤maxLen):Q131 m=some (z6h m):=by
 unfold Q131 zgf z6h
 cases decide ((300:Int)<(m.1.length:Int)) with
 |true=>rfl
 |false=>
  cases decide ((300:Int)<(m.2.1.length:Int)) with
  |true=>rfl
  |false=>
   simp only[zD,Bool.false_or]
   have e1:=loopJ pair0 m.1 h1 (fun i (p:Pair) (s:Unit) K=>bif(decide (100<((p.1).size:Int))) then some (Sum.inl (true,m)) else(bif(decide (100<((p.2.1).size:Int))) then some (Sum.inl (true,m)) else K s)) (fun _=>some (Sum.inr m))
    (fun k i s=>z4c k i m) (fun k i s h0 h1=>by
      show z4c (k+1) i m=_
      conv=>lhs;unfold z4c z96
      rw[zT h1,zC,zr h0 h1,zr h0 h1]
      rfl) (fun k s=>by
      show z4c (k+1) m.1.length m=_
      conv=>lhs;unfold z4c z96
      rw[zF (by omega),zD]) ()
   rw[e1,z18p]
   cases small 100 m.1 with
   |false=>rfl
   |true=>
    simp only[zC,Option.bind_some,Sum.elim_inr,Bool.not_true,Bool.false_or]
    unfold zgg
    have e2:=loopI rule0 m.2.1 h2 (fun i (x:Rule) (s:Unit) K=>((Q128 x).bind fun r1=>(bif r1 then some (Sum.inl true) else K s))) (fun _=>some (Sum.inr ()))
     (fun k i s=>z95 k i m) (fun k i s=>rfl) ()
    dsimp only
    rw[e2,z18o _ _ h3]
    cases m.2.1.any z5m<;>rfl
theorem zvw{m:Map}(h:z6h m=false):MapOk m:=by
 unfold z6h at h
 simp only[Bool.or_eq_false_iff,decide_eq_false_iff_not,Bool.not_eq_false'] at h
 obtain⟨h1,h2,h3,h4⟩:=h
 refine⟨⟨by omega,z101 (by omega) h3⟩,by omega,fun r hr=>z18r ?_⟩
 cases hg:z5m r with
 |false=>rfl
 |true=>rw[List.any_eq_true.2 ⟨r,hr,hg⟩] at h4;cases h4
theorem z10j{m:Map}(h:Wf tMap m):Q131 m=some (z6h m):=
 z12y m h.1.1 h.2.1.1 fun r hr=>(h.2.1.2 r hr).2.2.2.2.1.1
end Groat

namespace Groat
open Go.IntKind renaming wrap→zW,i64→zI,u8→zU
open Go Go.Ref
theorem z10t{r:Rule}{b:zf}{t:ByteArray}(ht:t.size≤1099511627776)(hr:RuleOk r):(zm r b t).1.2.1.size≤1099511627776:=by
 have h0:(bs []).size≤1099511627776:=by decide
 unfold zm
 cases decide (r.1=1) with
 |true=>exact ht
 |false=>
  rw[zD]
  cases decide (r.1=2) with
  |true=>exact h0
  |false=>
   rw[zD]
   cases decide (r.1=3) with
   |true=>exact hr.text
   |false=>
    rw[zD]
    cases decide (r.1=4) with
    |true=>
     rw[zC]
     cases hasS b r.2.2.1 with
     |false=>exact h0
     |true=>
      rw[Bool.not_true,zD]
      cases hp:(padD t (getS b r.2.2.1).2.2.2.1).2 with
      |false=>exact h0
      |true=>
       obtain⟨p1,p2,p3,p4⟩:=z12j hp
       show(padD t (getS b r.2.2.1).2.2.2.1).1.size≤_
       omega
    |false=>
     rw[zD]
     cases decide (r.1=5) with
     |true=>
      rw[zC]
      cases hp:(zo r.2.2.2.2.1 t).2 with
      |false=>exact h0
      |true=>
       obtain⟨p,hm,_,hq⟩:=z6r hp
       show(zo r.2.2.2.2.1 t).1.size≤_
       rw[hq]
       exact(hr.pairs.sz p hm).2
     |false=>exact h0
theorem zex{m:Map}{b:zf}:∀{l:List Val} {f:Fault},z17 m b l= .inl f→f.1≠0
 | [],f,h=>by cases h
 |v::r,f,h=>by
  rw[z17] at h
  cases hf:findR m v.1 with
  |none=>rw[hf] at h;cases h;exact(by decide:(9:Int)≠0)
  |some q=>
   rw[hf] at h
   dsimp only at h
   by_cases hz:(zm q b v.2.1).2=0
   ·rw[zT hz,Bool.not_true,zD] at h
    cases hr:z17 m b r with
    |inl g=>rw[hr] at h;cases h;exact zex hr
    |inr ys=>rw[hr] at h;cases h
   ·rw[zF hz,Bool.not_false,zC] at h
    cases h;exact hz
structure Done21(m:Map)(a b:zf)(x:Msg)(ys:List Val):Prop where
 map:Map0 m a b
 msg:Msg0 a x
 head:(zo m.1 x.1).2=true
 vals:z17 m b x.2.1= .inr ys
theorem z8y(m:Map)(a b:zf)(x:Msg):(∃f,f.1≠0∧z27 m a b x=(msg0,f))∨∃ys,Done21 m a b x ys∧z27 m a b x=(((zo m.1 x.1).1,z1v (ys++z16 m.2.1) 127 2,()),z13):=by
 rw[zpt]
 unfold zps
 by_cases h1:(mapC m a b).1=0
 ·rw[zT h1,Bool.not_true,zD]
  by_cases h2:(msgC a x).1=0
  ·rw[zT h2,Bool.not_true,zD]
   cases h3:(zo m.1 x.1).2 with
   |false=>exact .inl ⟨_,by decide,rfl⟩
   |true=>
    rw[Bool.not_true,zD]
    cases h4:z17 m b x.2.1 with
    |inl f=>exact .inl ⟨f,zex h4,rfl⟩
    |inr ys=>exact .inr ⟨ys,⟨z81.1 h1,z82.1 h2,h3,h4⟩,rfl⟩
  ·rw[zF h2];exact .inl ⟨_,h2,rfl⟩
 ·rw[zF h1];exact .inl ⟨_,by decide,rfl⟩
theorem Done21.eq{m:Map}{a b:zf}{x:Msg}{ys:List Val}(h:Done21 m a b x ys):z27 m a b x=(((zo m.1 x.1).1,z1v (ys++z16 m.2.1) 127 2,()),z13):=by
 rw[zpt]
 unfold zps
 rw[zT (z81.2 h.map),Bool.not_true,zD,zT (z82.2 h.msg),Bool.not_true,zD,h.head,h.vals]
 rfl
section
variable {m:Map} {a b:zf} {x:Msg} {ys:List Val}
theorem Done21.flds(h:Done21 m a b x ys):(∀v∈x.2.1,hasS a v.1=true∧valC (getS a v.1) v.2.1=0)∧Ris x.2.1∧∀v∈x.2.1,0<v.1:=z26.1 h.msg.flds
theorem Done21.ris(h:Done21 m a b x ys):Ris (z1v (ys++z16 m.2.1) 127 2):=by
 obtain⟨g1,g2,g3⟩:=h.flds
 refine zax ?_ 127 2 (by omega)
 rw[zfn,zfo h.map]
 exact zog (zuw h.map g2 (fun v hv=>(g1 v hv).1) h.vals)
theorem Done21.mem(h:Done21 m a b x ys)(v:Val):v∈z1v (ys++z16 m.2.1) 127 2↔v∈z16 m.2.1∨(v∈ys∧v.1≠0):=by
 rw[z6t,List.mem_append]
 have hr:=zux h.map h.vals
 constructor
 ·rintro⟨h1|h1,h2,h3⟩
  ·exact .inr ⟨h1,by omega⟩
  ·exact .inl h1
 ·rintro(h1|⟨h1,h2⟩)
  ·have:=z3p h.map.okB (hr v (List.mem_append_left _ h1))
   exact⟨.inr h1,by omega,by omega⟩
  ·have:=z3p h.map.okB (hr v (List.mem_append_right _ (z5a.2 ⟨h1,h2⟩)))
   exact⟨.inl h1,by omega,by omega⟩
theorem Done21.valid(h:Done21 m a b x ys)(hm:MapOk m)(hx:MsgOk x):∀v∈z1v (ys++z16 m.2.1) 127 2,hasS b v.1=true∧v.2.1.size≤1099511627776∧valC (getS b v.1) v.2.1=0:=by
 intro v hv
 obtain⟨g1,g2,g3⟩:=h.flds
 rcases(h.mem v).1 hv with hv|⟨hv,hz⟩
 ·obtain⟨r,hr,k,rfl⟩:=z4i.1 hv
  have hc:=(z6x (h.map.rules r hr)).2.2.2
  unfold kindC at hc
  rw[zF (by omega:¬r.1=1),zT k,zD,zC] at hc
  exact⟨h.map.to hr (by omega),(hm.rules r hr).text,hc⟩
 ·obtain⟨w,hw,q,hf,h0,rfl⟩:=z39 h.vals v hv
  obtain⟨b1,b2⟩:=z6e h0 hz
  obtain⟨qm,qf⟩:=z43 hf
  have hwt:=hx.txt w hw
  have:=(z10u (r:=q) (a:=a) (b:=b) hwt (hm.rules q qm) (h.map.rules q qm) h.map.okB (fun _=>by rw[qf];exact(g1 w hw).2)).2 h0
  obtain⟨e1,e2,e3⟩:=this.2 b1
  rw[b2]
  exact⟨e2,z10t hwt (hm.rules q qm),e3⟩
theorem z1ae{t:ByteArray}{v:Int}(h:versM t v=true):z1c t=true∧verM t=v:=by
 unfold versM at h
 rw[Bool.and_eq_true,decide_eq_true_eq] at h
 refine⟨h.1,?_⟩
 unfold verM
 rw[h.1];exact h.2
theorem Done21.mti(h:Done21 m a b x ys):z1c (zo m.1 x.1).1=true∧verM (zo m.1 x.1).1=b.2.1:=by
 obtain⟨p,hp,_,e⟩:=z6r h.head
 have ht:=h.map.typed p hp
 unfold z49 at ht
 rw[Bool.and_eq_true,Bool.and_eq_true] at ht
 rw[e]
 exact z1ae ht.2.1
theorem Done21.out(h:Done21 m a b x ys)(hm:MapOk m)(hx:MsgOk x):Msg0 b ((zo m.1 x.1).1,z1v (ys++z16 m.2.1) 127 2,()):=by
 have hv:=h.valid hm hx
 refine⟨h.map.sb,h.mti.1,h.mti.2,z26.2 ⟨fun v hm=>⟨(hv v hm).1,(hv v hm).2.2⟩,h.ris,fun v hm=> ?_⟩⟩
 have:=z3p h.map.okB (hv v hm).1
 omega
end
theorem zuk:∀{l:List Val} {lo:Int},Ris l→(∀v∈l,lo<v.1∧v.1≤128)→(l.length:Int)≤max 0 (128-lo)
 | [],lo,_,_=>by simp;omega
 |x::r,lo,h,hr=>by
  have h:=List.pairwise_cons.1 h
  have hx:=hr x List.mem_cons_self
  have:=zuk (l:=r) (lo:=x.1) h.2 (fun v hv=>⟨h.1 v hv,(hr v (List.mem_cons_of_mem _ hv)).2⟩)
  simp only[List.length_cons]
  omega
theorem Done21.ok{m:Map}{a b:zf}{x:Msg}{ys:List Val}(h:Done21 m a b x ys)(hm:MapOk m)(hx:MsgOk x):MsgOk ((zo m.1 x.1).1,z1v (ys++z16 m.2.1) 127 2,()):=by
 have hv:=h.valid hm hx
 refine⟨?_,?_,fun v hv'=>(hv v hv').2.1⟩
 ·have:=(z1q.1 h.mti.1).1
  show(zo m.1 x.1).1.size≤_
  omega
 ·have:=zuk (lo:=0) h.ris (fun v hv'=>by have:=z3p h.map.okB (hv v hv').1;omega)
  show(z1v (ys++z16 m.2.1) 127 2).length≤_
  omega
def goodV(m:Map)(b:zf)(v:Val):Prop:=∃q,findR m v.1=some q∧(zm q b v.2.1).2=0
theorem z5j{m:Map}{b:zf}:∀{l:List Val},(∃ys,z17 m b l= .inr ys)↔∀v∈l,goodV m b v
 | []=>⟨fun _ v hv=>(by cases hv),fun _=>⟨[],rfl⟩⟩
 |v::r=>by
  rw[z17]
  constructor
  ·rintro⟨ys,h⟩ w hw
   cases hf:findR m v.1 with
   |none=>rw[hf] at h;cases h
   |some q=>
    rw[hf] at h
    dsimp only at h
    cases hz:decide ((zm q b v.2.1).2=0) with
    |false=>rw[hz] at h;cases h
    |true=>
     rw[hz,Bool.not_true,zD] at h
     rcases List.mem_cons.1 hw with rfl|hw
     ·exact⟨q,hf,of_decide_eq_true hz⟩
     ·cases hr:z17 m b r with
      |inl g=>rw[hr] at h;cases h
      |inr zs=>exact z5j.1 ⟨zs,hr⟩ w hw
  ·intro h
   obtain⟨q,hf,hz⟩:=h v List.mem_cons_self
   obtain⟨zs,hr⟩:=z5j.2 fun w hw=>h w (List.mem_cons_of_mem _ hw)
   rw[hf,hr]
   dsimp only
   rw[zT hz]
   exact⟨_,rfl⟩
theorem zb5{m:Map}{b:zf}:∀{l ys:List Val},z17 m b l= .inr ys→∀v∈l,∃q,findR m v.1=some q∧(zm q b v.2.1).2=0∧(zm q b v.2.1).1∈ys
 | [],ys,h,v,hv=>by cases hv
 |x::r,ys,h,v,hv=>by
  rw[z17] at h
  cases hf:findR m x.1 with
  |none=>rw[hf] at h;cases h
  |some q=>
   rw[hf] at h
   dsimp only at h
   cases hz:decide ((zm q b x.2.1).2=0) with
   |false=>rw[hz] at h;cases h
   |true=>
    rw[hz,Bool.not_true,zD] at h
    cases hr:z17 m b r with
    |inl f=>rw[hr] at h;cases h
    |inr zs=>
     rw[hr] at h
     cases h
     rcases List.mem_cons.1 hv with rfl|hv
     ·exact⟨q,hf,of_decide_eq_true hz,List.mem_cons_self⟩
     ·obtain⟨q',g1,g2,g3⟩:=zb5 hr v hv
      exact⟨q',g1,g2,List.mem_cons_of_mem _ g3⟩
theorem Done21.part{m:Map}{a b:zf}{x:Msg}{ys:List Val}(h:Done21 m a b x ys){l:List Val}(hl:List.Sublist l x.2.1):∃zs,Done21 m a b (x.1,l,()) zs:=by
 obtain⟨g1,g2,g3⟩:=h.flds
 obtain⟨zs,hz⟩:=z5j.2 fun v hv=>z5j.1 ⟨ys,h.vals⟩ v (hl.subset hv)
 exact⟨zs,h.map,⟨h.msg.sch,h.msg.right,h.msg.ver,z26.2 ⟨fun v hv=>g1 v (hl.subset hv),g2.sublist hl,fun v hv=>g3 v (hl.subset hv)⟩⟩,h.head,hz⟩
end Groat

namespace Groat
open Go.IntKind renaming wrap→zW,i64→zI,u8→zU
open Go Go.Ref
def typC(style:Int)(m:ByteArray):ByteArray:=if style=1 then m else(z30 m).1
def encF(s:zf):List Val→ByteArray
 | []=>bs []
 |v::r=>(z2g s.1 (getS s v.1) v.2.1).1++encF s r
def nosM(m:Msg):List Int:=m.2.1.map fun v=>v.1
def encC(s:zf)(m:Msg):ByteArray:=typC s.1 m.1++(bmPut s.1 (setH (nosM m)) (setL (nosM m))).1++encF s m.2.1
theorem z193(m:Msg)(h:m.2.1.length≤1000000):Q174 m=some ((setH (nosM m):Int),(setL (nosM m):Int),()):=by
 unfold Q174 zhg
 dsimp only
 have key:∀(l:List Val) (i:Int) (p:List Int),runI (fun i (x:Val) (b:FSet) K=>(Q40 b x.1).bind fun r1=>K r1) (fun b=>some (((0:Int),(0:Int),()),b)) l i ((setH p:Int),(setL p:Int),())=some (((0:Int),(0:Int),()),((setH (p++l.map fun v=>v.1):Int),(setL (p++l.map fun v=>v.1):Int),())):=by
  intro l
  induction l with
  |nil=>intro i p;rw[List.map_nil,List.append_nil];rfl
  |cons x r ih=>
   intro i p
   rw[runI,z11w _ _ (z2u p) (z2v p),zc]
   have e1:setH p|||bitH x.1=setH (p++ [x.1]):=by unfold setH;rw[List.foldl_append];rfl
   have e2:setL p|||bitL x.1=setL (p++ [x.1]):=by unfold setL;rw[List.foldl_append];rfl
   rw[e1,e2]
   dsimp only
   rw[ih (i+1) (p++ [x.1]),List.map_cons,List.append_assoc];rfl
 have:=loopI vnil m.2.1 (by rw[zh];omega) (fun i (x:Val) (b:FSet) K=>(Q40 b x.1).bind fun r1=>K r1) (fun b=>some (((0:Int),(0:Int),()),b)) (fun k i b=>z9h k m.2.1 (m.2.1.length:Int) i ((0:Int),(0:Int),()) b) (fun k i b=>rfl) ((0:Int),(0:Int),())
 rw[this]
 have k2:=key m.2.1 0 []
 rw[show setH []=0 from rfl,show setL []=0 from rfl] at k2
 rw[show((0:Nat):Int)=0 from rfl] at k2
 rw[k2];rfl
theorem zww(style:Int)(m:ByteArray):(typC style m).size≤m.size+500:=by
 unfold typC
 split
 ·omega
 ·have:=zed m;omega
theorem zoi(style:Int)(h l:Nat):(bmPut style h l).1.size≤32:=by
 have hz:szM style≤16:=by unfold szM;split<;>omega
 unfold bmPut
 split
 ·dsimp only
  split
  ·rw[z3m];omega
  ·rw[zu,z3m,z3m];omega
 ·exact Nat.zero_le _
theorem zej(style:Int)(s:Spec)(t:ByteArray):(z2g style s t).1.size≤2*t.size+1000:=by
 unfold z2g
 split
 ·exact Nat.zero_le _
 ·split
  ·exact Nat.zero_le _
  ·dsimp only
   rw[zu]
   have:=zwh style s.2.2.1 t.size
   have:=zvb (howC style s.2.1) t
   omega
theorem zvq(s:zf):∀l:List Val,(∀v∈l,v.2.1.size≤1000)→(encF s l).size≤3000*l.length
 | [],_=>Nat.zero_le _
 |v::r,h=>by
  have h1:=zvq s r fun w hw=>h w (List.mem_cons_of_mem _ hw)
  have h2:=zej s.1 (getS s v.1) v.2.1
  have h3:=h v List.mem_cons_self
  rw[encF,zu,List.length_cons]
  omega
structure Short(m:Msg):Prop where
 mti:m.1.size≤1000
 len:m.2.1.length≤1000
 txt:∀v∈m.2.1,v.2.1.size≤1000
theorem Short.ok{m:Msg}(h:Short m):MsgOk m:=⟨by have:=h.mti;omega,by have:=h.len;omega,fun v hv=>by have:=h.txt v hv;omega⟩
theorem z18f{s:zf}{m:Msg}(h:Short m):(encC s m).size≤3002000:=by
 have:=zvq s m.2.1 h.txt
 have:=zww s.1 m.1
 have:=zoi s.1 (setH (nosM m)) (setL (nosM m))
 have:=h.mti
 have:=h.len
 unfold encC
 rw[zu,zu]
 omega
theorem zpe{s:zf}{m:Msg}(hm:MsgOk m)(h:Msg0 s m):Short m:=by
 have ho:=(z2b s).1 h.sch
 obtain⟨f1,f2,f3⟩:=z26.1 h.flds
 refine⟨by have:=(z1q.1 h.right).1;omega,?_,fun v hv=> ?_⟩
 ·have:=zuk (lo:=0) f2 (fun v hv=>by
   have:=zbg (z6k ho (f1 v hv).1)
   have e:=(zb7 (f1 v hv).1).2
   rw[e] at this
   exact⟨by omega,by omega⟩)
  omega
 ·obtain⟨v1,v2,v3,_,_⟩:=(z4a _ _ (hm.txt v hv)).1 (f1 v hv).2
  have:=z7i v1
  omega
theorem zuo{x o:ByteArray}(h:o.size+x.size≤140737488355328):Q239 x o=some (o++x):=by
 unfold Q239 zjh z1t
 rw[zT h,zC,zc]
theorem zyw(s:zf)(hs:s.2.2.1.length≤maxLen)(f:Fault):∀(l:List Val) (i:Int) (o:ByteArray),(∀v∈l,v.2.1.size≤1000)→o.size+3000*l.length≤100000000→
 runI (fun i (x:Val) (o:ByteArray) K=>(Q211 s x.1).bind fun r7=>(Q12 s.1 r7.1 x.2.1).bind fun r8=>(Q239 r8.1 o).bind fun r9=>K r9) (fun o=>some (f,o)) l i o=some (f,o++encF s l)
 | [],i,o,_,_=>by rw[encF,zu3];rfl
 |x::r,i,o,h,ho=>by
  have hx:=h x List.mem_cons_self
  have hc:=zej s.1 (getS s x.1) x.2.1
  rw[List.length_cons] at ho
  rw[runI,z36 s _ hs,zc,z139 _ _ _ (by omega),zc]
  dsimp only
  rw[zuo (by omega),zc]
  rw[zyw s hs f r (i+1) _ (fun v hv=>h v (List.mem_cons_of_mem _ hv)) (by rw[zu];omega),encF,ByteArray.append_assoc]
theorem z1ex(style:Int)(m:ByteArray)(hm:z1c m=true)(hs:style=1∨style=2):∃k,Q240 style m=some (typC style m,k):=by
 have h4:=(z1q.1 hm).1
 unfold Q240 zji typC
 rw[z8w m (by rw[zh];omega),zc,hm,Bool.not_true,zD]
 rcases hs with rfl|rfl
 ·exact⟨true,rfl⟩
 ·rw[zF (by decide),zD,zT rfl,zC,zec m (by rw[zh];omega),zc,if_neg (by decide)]
  exact⟨_,rfl⟩
def wireC(s:zf)(m:Msg):ByteArray×Fault:=if(msgC s m).1=0 then(encC s m,z13) else(bs [],msgC s m)
theorem zus(s:zf)(m:Msg)(hs:s.2.2.1.length≤maxLen)(h:MsgOk m):Q238 s m=some (wireC s m):=by
 unfold Q238 zjg wireC
 rw[zkt s m hs h,zc]
 by_cases h0:(msgC s m).1=0
 case neg=>rw[zF h0,if_neg h0];rfl
 have hm:=z82.1 h0
 have hsh:=zpe h hm
 have ho:=(z2b s).1 hm.sch
 obtain⟨k,hk⟩:=z1ex s.1 m.1 hm.right ho.1
 have ht:=zww s.1 m.1
 have hb:=zoi s.1 (setH (nosM m)) (setL (nosM m))
 have:=hsh.mti
 have:=hsh.len
 rw[zT h0,Bool.not_true,zD,if_pos h0,hk,zc,z193 m (by omega)]
 have w1:Q239 (typC s.1 m.1) (bs [])=some (typC s.1 m.1):=by
  rw[zuo (by show 0+_≤_;omega),zoj]
 have w2:Q239 (bmPut s.1 (setH (nosM m)) (setL (nosM m))).1 (typC s.1 m.1)=some (typC s.1 m.1++(bmPut s.1 (setH (nosM m)) (setL (nosM m))).1):=zuo (by omega)
 dsimp only
 rw[w1,zc,zc,z1cu _ _ _ (z2u _) (z2v _),zc,w2,zc]
 have hl:=loopI vnil m.2.1 (by rw[zh];omega) (fun i (x:Val) (o:ByteArray) K=>(Q211 s x.1).bind fun r7=>(Q12 s.1 r7.1 x.2.1).bind fun r8=>(Q239 r8.1 o).bind fun r9=>K r9) (fun o=>some (z13,o)) (fun k i o=>z9w k m.2.1 (m.2.1.length:Int) i s z13 o) (fun k i o=>rfl) (typC s.1 m.1++(bmPut s.1 (setH (nosM m)) (setL (nosM m))).1)
 rw[hl,zyw s hs _ m.2.1 0 _ hsh.txt (by rw[zu];omega)]
 rfl
end Groat

set_option maxRecDepth 10000
namespace Groat
open Go.IntKind renaming wrap→zW,i64→zI,u8→zU
open Go Go.Ref
def typZ(style:Int):Nat:=if style=2 then 2 else 4
def typT(style:Int)(b:ByteArray):ByteArray:=if style=2 then(z1m (b.extract 0 2) 4).1 else b.extract 0 4
def typD(s:zf)(b:ByteArray):Sum Int Zt0:=
 if b.size<typZ s.1 then .inl 2 else if z1c (typT s.1 b)=true∧verM (typT s.1 b)=s.2.1 then .inr (typT s.1 b,typZ s.1) else .inl 7
def decF(s:zf)(b:ByteArray):List Int→Nat→List Val→List Val×Fault
 | [],a,o=>(o,if a<b.size then(12,129,()) else z13)
 |no::r,a,o=>if hasS s no=false then(o,(9,no,())) else if¬(z23 s.1 (getS s no) b a).2.2=0 then(o,((z23 s.1 (getS s no) b a).2.2,no,())) else decF s b r (z23 s.1 (getS s no) b a).2.1.toNat (o++ [(no,(z23 s.1 (getS s no) b a).1,())])
def decB(s:zf)(b t:ByteArray)(g:Nat×Nat×Int×Int):Msg×Fault:=
 if¬g.2.2.2=0 then((t,[],()),(g.2.2.2,1,())) else((t,(decF s b (elems g.1 g.2.1) g.2.2.1.toNat []).1,()),(decF s b (elems g.1 g.2.1) g.2.2.1.toNat []).2)
def decT(s:zf)(b:ByteArray):Sum Int Zt0→Msg×Fault
 | .inl e=>(msg0,(e,0,()))
 | .inr q=>decB s b q.1 (bmGet s.1 b q.2)
def decC(s:zf)(b:ByteArray):Msg×Fault:=if¬(z1a s).1=0 then(msg0,(1,-1,())) else decT s b (typD s b)
def typR:Sum Int Zt0→ByteArray×Int×Int
 | .inl e=>(bs [],0,e)
 | .inr q=>(q.1,(q.2:Int),0)
theorem z1aa(style:Int)(b:ByteArray):(typT style b).size≤2000:=by
 unfold typT
 split
 ·generalize hg:z1m (b.extract 0 2) 4=g
  obtain⟨t,e,i⟩:=g
  have:=z8m hg
  dsimp only;omega
 ·rw[ByteArray.size_extract];omega
theorem zwx(s:zf)(t:ByteArray)(z:Nat)(ht:t.size≤2000):((Q181 t).bind fun r3=>(bif(!r3.2) then some (bs [],(0:Int),(7:Int)) else(bif(!(decide (r3.1=s.2.1))) then some (bs [],(0:Int),(7:Int)) else some (t,(z:Int),(0:Int)))))=some (typR (if z1c t=true∧verM t=s.2.1 then .inr (t,z) else .inl 7)):=by
 rw[z6q t (by rw[zh];omega),zc]
 dsimp only
 cases hr:z1c t with
 |false=>rfl
 |true=>
  rw[Bool.not_true,zD]
  by_cases hv:verM t=s.2.1
  ·rw[zT hv,if_pos ⟨rfl,hv⟩];rfl
  ·rw[zF hv,if_neg (fun h=>hv h.2)];rfl
theorem z1ab(s:zf)(b:ByteArray)(hb:b.size≤1099511627776):Q223 s b=some (typR (typD s b)):=by
 have h4:Q2 4=some 2:=by have:=z5e 4 (by decide) (by decide);exact this
 have e0:((2:Int)).toNat=2:=rfl
 have e4:((4:Int)).toNat=4:=rfl
 have hts:=z1aa s.1 b
 unfold Q223 zj0 typD
 by_cases h2:s.1=2
 ·have hz:typZ 2=2:=rfl
  have hT:typT 2 b=(z1m (b.extract 0 2) 4).1:=rfl
  rw[h2] at hts
  simp only[h2,decide_true,zC,h4,zc,e0]
  rw[hz]
  by_cases hc:b.size<2
  ·rw[zT (by omega),if_pos hc];rfl
  ·rw[zF (by omega),zD,zT (by decide),zC,zT (by omega),zC,if_neg hc,zeb _ _ (by rw[ByteArray.size_extract];omega),zc,←hT]
   exact zwx s (typT 2 b) 2 hts
 ·have hz:typZ s.1=4:=by unfold typZ;rw[if_neg h2]
  have hT:typT s.1 b=b.extract 0 4:=by unfold typT;rw[if_neg h2]
  simp only[h2,decide_false,zD,e4]
  rw[hz]
  by_cases hc:b.size<4
  ·rw[zT (by omega),if_pos hc];rfl
  ·rw[zF (by omega),zD,zT (by omega),zC,if_neg hc,←hT]
   exact zwx s (typT s.1 b) 4 hts
theorem z119{h l:Nat}{pre r:List Int}{no:Int}(he:elems h l=pre++no::r):nextN h l no=r.headD 0:=by
 have hs:=z5i h l
 rw[he] at hs
 have hp:=List.pairwise_append.1 hs
 have hq:=List.pairwise_cons.1 hp.2.1
 unfold nextN
 rw[he,List.filter_append,List.filter_eq_nil_iff.2 (fun x hx=>by have:=hp.2.2 x hx no List.mem_cons_self;simp;omega),List.nil_append,List.filter_cons_of_neg (by simp),List.filter_eq_self.2 (fun x hx=>by have:=hq.1 x hx;simp;omega)]
theorem z13t(h l:Nat):nextN h l 0=(elems h l).headD 0:=by
 unfold nextN
 rw[List.filter_eq_self.2 (fun x hx=>by have:=zf2 ((z3n h l x).1 hx);simp;omega)]
theorem zb4(h l:Nat):(elems h l).length≤128:=by
 unfold elems
 exact Nat.le_trans (List.length_filter_le _ _) (by rw[z1e6];exact Nat.le_refl _)
theorem z17y{style:Int}{s:Spec}{b:ByteArray}{a:Nat}(hb:b.size≤1099511627776)(h:(z23 style s b a).2.2=0):(((z23 style s b a).2.1.toNat:Nat):Int)=(z23 style s b a).2.1:=by
 generalize hg:z23 style s b a=g at h⊢
 obtain⟨t,z,e⟩:=g
 dsimp only at h⊢
 subst h
 have:=(zaz hb hg).2.2.1
 omega
def finD(b:ByteArray)(e:Sum (ByteArray×Int×Msg×Fault×Msg) (ByteArray×Int×Msg×Fault×Msg)):Option (Msg×Fault):=Sum.elim (fun we=>some (we.2.2.1,we.2.2.2.1)) (fun we=>bif(decide (we.2.1<(we.1.size:Int))) then some (we.2.2.2.2,((12:Int),(129:Int),())) else some (we.2.2.2.2,z13)) e
theorem zl0(s:zf)(hs:s.2.2.1.length≤maxLen)(b t:ByteArray)(hb:b.size≤1099511627776)(h l:Nat)(hh:h<B64)(hl:l<B64):∀(r pre:List Int) (k a:Nat) (o:List Val),elems h l=pre++r→o.length≤pre.length→r.length<k→
 (z60 k b (a:Int) (r.headD 0) s msg0 z13 (t,o,()) ((h:Int),(l:Int),())).bind (finD b)=some ((t,(decF s b r a o).1,()),(decF s b r a o).2)
 |r,pre,0,a,o,_,_,hk=>by omega
 | [],pre,k+1,a,o,he,ho,hk=>by
   unfold z60 z9v decF
   rw[show([]:List Int).headD 0=0 from rfl,zT (p:=(0:Int)=0) rfl,Bool.not_true,zD,zc]
   unfold finD
   rw[Sum.elim_inr]
   dsimp only
   by_cases hc:a<b.size
   ·rw[zT (by omega),if_pos hc];rfl
   ·rw[zF (by omega),if_neg hc];rfl
 |no::r,pre,k+1,a,o,he,ho,hk=>by
  have hmem:no∈elems h l:=by rw[he];exact List.mem_append_right _ List.mem_cons_self
  have hno:=zf2 ((z3n h l no).1 hmem)
  have hlen:=zb4 h l
  rw[he,List.length_append,List.length_cons] at hlen
  rw[List.length_cons] at hk
  unfold z60 z9v decF
  rw[show(no::r).headD 0=no from rfl,zF (by omega:¬no=0),Bool.not_false,zC,z36 s _ hs,zc]
  dsimp only
  cases hf:hasS s no with
  |false=>rfl
  |true=>
   rw[Bool.not_true,zD,if_neg (by decide),z138 _ _ _ _ hb,zc]
   by_cases hz:(z23 s.1 (getS s no) b a).2.2=0
   case neg=>rw[zF hz,if_pos hz];rfl
   rw[zT hz,Bool.not_true,zD,if_neg (fun h=>h hz),zT (by simp only[List.length_singleton];omega),zC,z11f h l hh hl no (by omega) (by omega),zc,z119 he,←z17y hb hz]
   exact zl0 s hs b t hb h l hh hl r (pre++ [no]) k _ _ (by rw[he,List.append_assoc];rfl) (by rw[List.length_append,List.length_append,List.length_singleton,List.length_singleton];omega) (by omega)
theorem z1ct{style:Int}{b:ByteArray}{a:Nat}(h:(bmGet style b a).2.2.2=0):(bmGet style b a).1<B64∧(bmGet style b a).2.1<B64∧(((bmGet style b a).2.2.1.toNat:Nat):Int)=(bmGet style b a).2.2.1:=by
 generalize hg:bmGet style b a=g at h⊢
 obtain⟨h',l,z,e⟩:=g
 dsimp only at h⊢
 subst h
 obtain⟨_,q1,q2,q3,_⟩:=zyl hg
 exact⟨by show h'<18446744073709551616;omega,q2,by omega⟩
theorem z14e(s:zf)(b:ByteArray)(hs:s.2.2.1.length≤maxLen)(hb:b.size≤1099511627776):Q222 s b=some (decC s b):=by
 unfold Q222 ziz decC
 rw[z7k s hs,zc]
 by_cases h0:(z1a s).1=0
 case neg=>rw[zF h0,if_pos h0];rfl
 rw[zT h0,Bool.not_true,zD,if_neg (fun h=>h h0),z1ab s b hb,zc]
 cases ht:typD s b with
 |inl e=>
  have he:e≠0:=by
   unfold typD at ht
   split at ht
   ·cases ht;decide
   ·split at ht
    ·cases ht
    ·cases ht;decide
  exact z17j he
 |inr q=>
  obtain⟨t,z⟩:=q
  refine(z17k (p:=(0:Int)=0) rfl).trans ?_
  dsimp only[typR,decT,decB]
  rw[z1cs _ _ _ hb,zc]
  by_cases he:(bmGet s.1 b z).2.2.2=0
  case neg=>rw[if_pos he];exact z17j he
  rw[if_neg (fun h=>h he)]
  refine(z17k he).trans ?_
  obtain⟨q1,q2,q3⟩:=z1ct he
  dsimp only[bmR]
  rw[z11f _ _ q1 q2 0 (by decide) (by decide),zc,z13t,←q3]
  exact zl0 s hs b t hb _ _ q1 q2 (elems (bmGet s.1 b z).1 (bmGet s.1 b z).2.1) [] FUEL _ [] rfl (Nat.le_refl _) (by have:=zb4 (bmGet s.1 b z).1 (bmGet s.1 b z).2.1;rw[z14];omega)
end Groat

set_option maxRecDepth 10000
namespace Groat
open Go.IntKind renaming wrap→zW,i64→zI,u8→zU
open Go Go.Ref
end Groat

namespace Groat
open Go.IntKind renaming wrap→zW,i64→zI,u8→zU
open Go Go.Ref
theorem zzw:∀{l r:List Int},l.Pairwise (· < ·)→r.Pairwise (· < ·)→(∀v,v∈l↔v∈r)→l=r
 | [],[],_,_,_=>rfl
 | [],y::r,_,_,h=>by have:=(h y).2 List.mem_cons_self;cases this
 |x::l,[],_,_,h=>by have:=(h x).1 List.mem_cons_self;cases this
 |x::l,y::r,h1,h2,h=>by
  obtain⟨a1,a2⟩:=List.pairwise_cons.1 h1
  obtain⟨b1,b2⟩:=List.pairwise_cons.1 h2
  have e:x=y:=by
   rcases List.mem_cons.1 ((h x).1 List.mem_cons_self) with e|hx
   ·exact e
   ·rcases List.mem_cons.1 ((h y).2 List.mem_cons_self) with e|hy
    ·exact e.symm
    ·have:=a1 y hy;have:=b1 x hx;omega
  subst e
  rw[zzw a2 b2 fun v=>⟨fun hv=> ?_,fun hv=> ?_⟩]
  ·rcases List.mem_cons.1 ((h v).1 (List.mem_cons_of_mem _ hv)) with e|h3
   ·have:=a1 v hv;omega
   ·exact h3
  ·rcases List.mem_cons.1 ((h v).2 (List.mem_cons_of_mem _ hv)) with e|h3
   ·have:=b1 v hv;omega
   ·exact h3
theorem z1dd{l:List Int}(hs:l.Pairwise (· < ·))(hr:∀x∈l,1≤x∧x≤128):elems (setH l) (setL l)=l:=
 zzw (z5i _ _) hs fun v=>by
  rw[z3n,z66]
  unfold inR
  constructor
  ·intro h
   rw[Bool.and_eq_true,decide_eq_true_eq] at h
   exact h.1
  ·intro h
   rw[Bool.and_eq_true,decide_eq_true_eq,decide_eq_true_eq]
   exact⟨h,hr v h⟩
theorem z1kh{h l:Nat}(hh:h<B64)(hl:l<B64):setH (elems h l)=h∧setL (elems h l)=l:=
 z12o (z2u _) (z2v _) hh hl fun n n1 n2=>by
  rw[z66]
  unfold inR
  rw[zT (p:=1≤n∧n≤128) ⟨n1,n2⟩,Bool.and_true]
  cases hn:hasN h l n with
  |true=>exact zT ((z3n h l n).2 hn)
  |false=>exact zF fun hm=>by rw[(z3n h l n).1 hm] at hn;cases hn
theorem zue{s:zf}(h:Okay s){no:Int}(hh:hasS s no=true):2≤no∧no≤128:=by
 have:=zbg (z6k h hh)
 rw[(zb7 hh).2] at this
 exact this
theorem zvg(s:zf)(ho:Okay s):∀(l o:List Val) (x:ByteArray),(∀v∈l,hasS s v.1=true∧valC (getS s v.1) v.2.1=0∧v.2.1.size≤1000)→decF s (x++encF s l) (l.map fun v=>v.1) x.size o=(o++l,z13)
 | [],o,x,_=>by
   rw[encF,zu3,List.append_nil,List.map_nil,decF,if_neg (by omega)]
 |v::r,o,x,h=>by
  obtain⟨h1,h2,h3⟩:=h v List.mem_cons_self
  have hb:=z17x (style:=s.1) ho.1 (by omega) h2 x (encF s r)
  have e1:x++encF s (v::r)=x++(z2g s.1 (getS s v.1) v.2.1).1++encF s r:=by rw[encF,ByteArray.append_assoc]
  rw[List.map_cons,decF,if_neg (by rw[h1];decide),e1,hb]
  dsimp only
  rw[if_neg (fun h=>h rfl),Int.toNat_natCast,←zu,zvg s ho r _ (x++(z2g s.1 (getS s v.1) v.2.1).1) fun w hw=>h w (List.mem_cons_of_mem _ hw),List.append_assoc]
  rfl
theorem zwv{s:zf}(hs:s.1=1∨s.1=2){m y:ByteArray}(hm:z1c m=true):typT s.1 (typC s.1 m++y)=m∧(typC s.1 m).size=typZ s.1:=by
 obtain⟨h4,hd⟩:=z1q.1 hm
 have e0:∀(p:ByteArray) (k:Nat),p.size=k→(p++y).extract 0 k=p:=fun p k hk=>by
  have:=zk3 (bs []) p y
  rw[zoj,show(bs []).size=0 from rfl,Nat.zero_add,hk] at this
  exact this
 unfold typT typC typZ
 rcases hs with hs|hs
 ·have n2:¬s.1=2:=by omega
  rw[if_neg n2,if_pos hs,if_neg n2]
  exact⟨e0 m 4 h4,h4⟩
 ·have n1:¬s.1=1:=by omega
  have hz:(z30 m).1.size=2:=by rw[z4o (by omega) hd,h4]
  rw[if_pos hs,if_neg n1,if_pos hs,e0 _ 2 hz]
  have:=zlk (s:=m) (by omega) hd
  rw[h4] at this
  rw[show(4:Int)=((4:Nat):Int) from rfl,this]
  exact⟨rfl,hz⟩
theorem z1d4{s:zf}{m:Msg}(h:Msg0 s m)(hsh:Short m):decC s (encC s m)=(m,z13):=by
 have ho:=(z2b s).1 h.sch
 obtain⟨f1,f2,f3⟩:=z26.1 h.flds
 have hnos:∀n∈nosM m,2≤n∧n≤128:=fun n hn=>by
  obtain⟨v,hv,rfl⟩:=List.mem_map.1 hn
  exact zue ho (f1 v hv).1
 have hris:(nosM m).Pairwise (· < ·):=List.pairwise_map.2 f2
 have hel:=z1dd hris fun x hx=>by have:=hnos x hx;omega
 have h1:setH (nosM m)<9223372036854775808:=by
  have:=z1kd (nosM m)
  rw[zF (fun h1=>by have:=hnos 1 h1;omega)] at this
  cases hd:decide (setH (nosM m)<9223372036854775808) with
  |true=>exact of_decide_eq_true hd
  |false=>rw[hd] at this;cases this
 obtain⟨t1,t2⟩:=zwv (s:=s) ho.1 (m:=m.1) (y:=(bmPut s.1 (setH (nosM m)) (setL (nosM m))).1++encF s m.2.1) h.right
 have e1:encC s m=typC s.1 m.1++((bmPut s.1 (setH (nosM m)) (setL (nosM m))).1++encF s m.2.1):=by unfold encC;rw[ByteArray.append_assoc]
 have hb:=z1h5 (style:=s.1) ho.1 h1 (z2v (nosM m)) (typC s.1 m.1) (encF s m.2.1)
 have hsz:typZ s.1≤(encC s m).size:=by rw[e1,zu,t2];omega
 unfold decC
 rw[if_neg (fun hn=>hn h.sch)]
 have hT:typD s (encC s m)= .inr (m.1,typZ s.1):=by
  unfold typD
  rw[if_neg (by omega),e1,t1,if_pos ⟨h.right,h.ver⟩]
 rw[hT]
 show decB s (encC s m) m.1 (bmGet s.1 (encC s m) (typZ s.1))=_
 rw[←t2]
 show decB s (encC s m) m.1 (bmGet s.1 (typC s.1 m.1++(bmPut s.1 (setH (nosM m)) (setL (nosM m))).1++encF s m.2.1) (typC s.1 m.1).size)=_
 rw[hb]
 unfold decB
 dsimp only
 rw[if_neg (fun hn=>hn rfl),Int.toNat_natCast,hel]
 have hd:=zvg s ho m.2.1 [] (typC s.1 m.1++(bmPut s.1 (setH (nosM m)) (setL (nosM m))).1) fun v hv=>⟨(f1 v hv).1,(f1 v hv).2,hsh.txt v hv⟩
 rw[zu] at hd
 have hd':decF s (encC s m) (nosM m) ((typC s.1 m.1).size+(bmPut s.1 (setH (nosM m)) (setL (nosM m))).1.size) []=([]++m.2.1,z13):=hd
 rw[hd']
 rfl
theorem zoo(s:zf)(b:ByteArray)(hb:b.size≤1099511627776):∀(r:List Int) (a:Nat) (o q:List Val) (f:Fault),a≤b.size→decF s b r a o=(q,f)→f.1=0→f=z13∧∃l,q=o++l∧(l.map fun v=>v.1)=r∧encF s l=b.extract a b.size∧∀v∈l,hasS s v.1=true∧valC (getS s v.1) v.2.1=0∧v.2.1.size≤999
 | [],a,o,q,f,ha,h,h0=>by
   rw[decF] at h
   by_cases hc:a<b.size
   ·rw[if_pos hc] at h
    injection h with _ h
    rw[←h] at h0;cases h0
   ·rw[if_neg hc] at h
    injection h with h1 h2
    refine⟨h2.symm,[],by rw[←h1,List.append_nil],rfl,?_,fun v hv=>by cases hv⟩
    have:a=b.size:=by omega
    rw[this,encF]
    apply z5f
    rw[z1y,List.drop_eq_nil_of_le (by rw[List.length_take];omega)];rfl
 |no::r,a,o,q,f,ha,h,h0=>by
  rw[decF] at h
  split at h
  ·injection h with _ h;rw[←h] at h0;cases h0
  ·rename_i hf
   have hf:hasS s no=true:=by cases hh:hasS s no with
    |true=>rfl
    |false=>exact absurd hh hf
   split at h
   ·rename_i hz
    injection h with _ h
    rw[←h] at h0
    exact absurd h0 hz
   ·rename_i hz
    generalize hg:z23 s.1 (getS s no) b (a:Int)=g at h hz
    obtain⟨t,z,e⟩:=g
    dsimp only at h hz
    have he:e=0:=Classical.byContradiction fun hn=>hz hn
    subst he
    obtain⟨c1,c2,c3,c4,c5,c6⟩:=zaz hb hg
    obtain⟨i1,l,i2,i3,i4,i5⟩:=zoo s b hb r z.toNat _ q f (by omega) h h0
    refine⟨i1,(no,t,())::l,by rw[i2,List.append_assoc];rfl,by rw[List.map_cons,i3],?_,fun v hv=> ?_⟩
    ·rw[encF,i4]
     dsimp only
     rw[c6]
     exact zac _ (by omega) (by omega)
    ·rcases List.mem_cons.1 hv with rfl|hv
     ·exact⟨hf,c2,c5⟩
     ·exact i5 v hv
theorem z1hj(b:ByteArray):b.extract 0 b.size=b:=by
 apply z5f
 rw[z1y,List.drop_zero,List.take_of_length_le (by rw[zg];exact Nat.le_refl _)]
theorem z185{s:zf}{b:ByteArray}{m:Msg}{f:Fault}(hb:b.size≤1099511627776)(h:decC s b=(m,f))(h0:f.1=0):f=z13∧Msg0 s m∧Short m∧encC s m=b:=by
 unfold decC at h
 split at h
 ·injection h with _ h;rw[←h] at h0;cases h0
 rename_i hsch
 have hsch:(z1a s).1=0:=Classical.byContradiction fun hn=>hsch hn
 have ho:=(z2b s).1 hsch
 cases ht:typD s b with
 |inl e=>
  rw[ht] at h
  have he:e≠0:=by
   unfold typD at ht
   split at ht
   ·cases ht;decide
   ·split at ht
    ·cases ht
    ·cases ht;decide
  injection h with _ h
  rw[←h] at h0
  exact absurd h0 he
 |inr q=>
  rw[ht] at h
  unfold typD at ht
  split at ht
  ·cases ht
  rename_i hsz
  split at ht
  case isFalse=>cases ht
  rename_i hr
  obtain⟨hr1,hr2⟩:=hr
  injection ht with ht
  subst ht
  replace h:decB s b (typT s.1 b) (bmGet s.1 b (typZ s.1))=(m,f):=h
  have htc:typC s.1 (typT s.1 b)=b.extract 0 (typZ s.1):=by
   obtain⟨h4,hd⟩:=z1q.1 hr1
   unfold typC typT typZ at*
   rcases ho.1 with h1|h2
   ·rw[if_pos h1,if_neg (by omega),if_neg (by omega)]
   ·rw[if_pos h2] at hsz hr1 h4 hd⊢
    rw[if_neg (by omega),if_pos h2]
    generalize hg:z1m (b.extract 0 2) 4=g at hr1 h4 hd⊢
    obtain⟨t,e,i⟩:=g
    dsimp only at h4 hd⊢
    have hsz2:(b.extract 0 2).size=2:=by rw[ByteArray.size_extract];omega
    have he:e=0:=by
     unfold z1m at hg
     rw[if_neg (by decide),if_neg (by rw[hsz2];decide)] at hg
     split at hg
     ·injection hg with hg _
      rw[←hg] at h4;cases h4
     ·injection hg with _ hg
      injection hg with hg _
      exact hg.symm
    subst he
    obtain⟨a1,_,_⟩:=zef hg (by rw[hsz2];decide)
    rw[a1]
  unfold decB at h
  generalize hg:bmGet s.1 b ((typZ s.1:Nat):Int)=g at h
  obtain⟨hi,lo,z,e⟩:=g
  dsimp only at h
  split at h
  ·rename_i he
   injection h with _ h
   rw[←h] at h0
   exact absurd h0 he
  rename_i he
  have he:e=0:=Classical.byContradiction fun hn=>he hn
  subst he
  obtain⟨_,b1,b2,b3,b4,b5⟩:=zyl hg
  generalize hq:decF s b (elems hi lo) z.toNat []=d at h
  obtain⟨q,f'⟩:=d
  injection h with hm hf
  dsimp only at hm hf
  subst hf
  obtain⟨i1,l,i2,i3,i4,i5⟩:=zoo s b hb _ _ _ _ _ (by omega) hq h0
  rw[List.nil_append] at i2
  subst i2
  subst hm
  have hnos:nosM (typT s.1 b,q,())=elems hi lo:=i3
  obtain⟨s1,s2⟩:=z1kh (h:=hi) (l:=lo) (by show hi<18446744073709551616;omega) b2
  have hris:Ris q:=by
   have:=z5i hi lo
   rw[←i3] at this
   exact List.pairwise_map.1 this
  refine⟨i1,⟨hsch,hr1,hr2,z26.2 ⟨fun v hv=>⟨(i5 v hv).1,(i5 v hv).2.1⟩,hris,fun v hv=>by have:=zue ho (i5 v hv).1;omega⟩⟩,⟨by have:=(z1q.1 hr1).1;dsimp only;omega,?_,fun v hv=>by have:=(i5 v hv).2.2;omega⟩,?_⟩
  ·have:=zb4 hi lo
   rw[←i3,List.length_map] at this
   dsimp only;omega
  ·unfold encC
   rw[hnos,s1,s2]
   dsimp only
   rw[htc,b5,i4,zac _ (by omega) (by omega),zac _ (by omega) (by omega),z1hj]
end Groat

namespace Groat
open Go.IntKind renaming wrap→zW,i64→zI,u8→zU
open Go Go.Ref
abbrev Side:=zf×Map×List Int×List Val×Unit
abbrev vnilR:Val:=(0,bs [],())
def echoC(s:zf)(prev:List Int)(no:Int):Int:=bif !hasS s no then 9 else bif decide (no=39) then 1 else bif decide (no∈prev) then 10 else 0
def echoL(s:zf):List Int→List Int→Int→Option (Int×Int)
 |_,[],_=>none
 |prev,no::r,i=>bif decide (echoC s prev no=0) then echoL s (prev++ [no]) r (i+1) else some (echoC s prev no,i)
def codeC(a:Spec)(prev:List Int)(c:Val):Int:=bif decide (c.1<0) then 1 else bif decide (16<c.1) then 1 else bif decide (c.1∈prev) then 10 else valC a c.2.1
def codeL(a:Spec):List Int→List Val→Int→Option (Int×Int)
 |_,[],_=>none
 |prev,c::r,i=>bif decide (codeC a prev c=0) then codeL a (prev++ [c.1]) r (i+1) else some (codeC a prev c,i)
def rejC(s:Side):Int×Int×Int:=
 bif !decide ((z1a s.1).1=0) then(1,1,0) else bif !hasS s.1 39 then(9,1,1) else match echoL s.1 [] s.2.2.1 0 with
  |some e=>(e.1,2,e.2)
  |none=>match codeL (getS s.1 39) [] s.2.2.2.1 0 with
   |some e=>(e.1,3,e.2)
   |none=>bif decide ((0:Int)∈s.2.2.2.1.map fun c=>c.1) then(0,0,0) else(15,3,(s.2.2.2.1.length:Int))
structure SideOk(s:Side):Prop where
 sch:s.1.2.2.1.length≤maxLen
 echo:s.2.2.1.length≤1000000
 codes:s.2.2.2.1.length≤1000000
 txt:∀c∈s.2.2.2.1,c.2.1.size≤1099511627776
theorem zzb(no:Int):∀(l:List Int) (i:Int),0≤i→∃r,runI (fun i (x:Int) (s:Unit) K=>bif decide (no=x) then some (Sum.inl i) else K s) (fun _=>some (Sum.inr ())) l i ()=some r∧(no∈l→∃j,r= .inl j∧0≤j)∧(no∉l→r= .inr ())
 | [],i,_=>⟨_,rfl,fun h=>(by cases h),fun _=>rfl⟩
 |x::l,i,h=>by
  rw[runI]
  by_cases e:no=x
  ·rw[zT e,zC]
   exact⟨_,rfl,fun _=>⟨i,rfl,h⟩,fun hn=>absurd (by rw[e];exact List.mem_cons_self) hn⟩
  ·rw[zF e,zD]
   obtain⟨r,h1,h2,h3⟩:=zzb no l (i+1) (by omega)
   exact⟨r,h1,fun hm=>h2 ((List.mem_cons.1 hm).resolve_left e),fun hn=>h3 fun hm=>hn (List.mem_cons_of_mem _ hm)⟩
theorem zxd(l:List Int)(no:Int)(h:l.length≤maxLen):Q214 l no=some (decide (no∈l)):=by
 unfold Q214 zin Q217 zit
 have:=loopI (0:Int) l h (fun i (x:Int) (s:Unit) K=>bif decide (no=x) then some (Sum.inl i) else K s) (fun _=>some (Sum.inr ()))
  (fun k i s=>z9u k l no (l.length:Int) i) (fun k i s=>rfl) ()
 dsimp only
 obtain⟨r,h1,h2,h3⟩:=zzb no l 0 (Int.le_refl _)
 rw[this,h1,zc]
 by_cases hm:no∈l
 ·obtain⟨j,rfl,hj⟩:=h2 hm
  rw[zT hm]
  show some (decide (0≤j))=_
  rw[zT hj]
 ·rw[h3 hm,zF hm];rfl
theorem zzc(c:Val):∀(l:List Val) (i:Int),0≤i→∃r,runI (fun i (x:Val) (s:Val) K=>((Q191 x s).bind fun r1=>(bif r1.1 then some (Sum.inl (i,r1.2)) else K r1.2))) (fun s=>some (Sum.inr s)) l i c=some r∧(c.1∈l.map (fun v=>v.1)→∃j,r= .inl (j,c)∧0≤j)∧(c.1∉l.map (fun v=>v.1)→r= .inr c)
 | [],i,_=>⟨_,rfl,fun h=>(by cases h),fun _=>rfl⟩
 |x::l,i,h=>by
  rw[runI]
  unfold Q191 zi5
  rw[zc]
  dsimp only
  rw[List.map_cons]
  by_cases e:x.1=c.1
  ·rw[zT e,zC]
   exact⟨_,rfl,fun _=>⟨i,rfl,h⟩,fun hn=>absurd (by rw[e];exact List.mem_cons_self) hn⟩
  ·rw[zF e,zD]
   obtain⟨r,h1,h2,h3⟩:=zzc c l (i+1) (by omega)
   exact⟨r,h1,fun hm=>h2 ((List.mem_cons.1 hm).resolve_left fun e2=>e e2.symm),fun hn=>h3 fun hm=>hn (List.mem_cons_of_mem _ hm)⟩
theorem zxe(l:List Val)(c:Val)(h:l.length≤maxLen):Q213 l c=some (decide (c.1∈l.map fun v=>v.1),c):=by
 unfold Q213 zim Q215 zip
 have:=loopI vnilR l h (fun i (x:Val) (s:Val) K=>((Q191 x s).bind fun r1=>(bif r1.1 then some (Sum.inl (i,r1.2)) else K r1.2))) (fun s=>some (Sum.inr s))
  (fun k i s=>z9s k l (l.length:Int) i s) (fun k i s=>rfl) c
 dsimp only
 obtain⟨r,h1,h2,h3⟩:=zzc c l 0 (Int.le_refl _)
 rw[this,h1,zc]
 by_cases hm:c.1∈l.map fun v=>v.1
 ·obtain⟨j,rfl,hj⟩:=h2 hm
  rw[zT hm]
  show some (decide (0≤j),c)=_
  rw[zT hj]
 ·rw[h3 hm,zF hm];rfl
theorem zu9{α:Type}{l:List α}{j:Nat}(h:j<l.length)(d:α):l.getD j d=l[j]:=by rw[List.getD_eq_getElem?_getD,List.getElem?_eq_getElem h];rfl
theorem z1he(s:Side)(h:SideOk s){j:Nat}(hj:j<s.2.2.1.length):Q192 s (j:Int)=some (echoC s.1 (s.2.2.1.take j) s.2.2.1[j]):=by
 have he:=h.echo
 unfold Q192 zi6 echoC
 rw[zj hj,Int.toNat_natCast,zu9 hj,z36 s.1 _ h.sch,zc]
 cases hasS s.1 s.2.2.1[j] with
 |false=>rfl
 |true=>
  dsimp only
  rw[Bool.not_true,zD,zD]
  cases decide (s.2.2.1[j]=39) with
  |true=>rfl
  |false=>
   rw[zD,zD,zT (by omega),zC,zT (by omega),zC,List.drop_zero,zxd _ _ (by rw[List.length_take,zh];omega),zc]
   cases decide (s.2.2.1[j]∈s.2.2.1.take j)<;>rfl
theorem z1hb(s:Side)(h:SideOk s)(a:Spec){j:Nat}(hj:j<s.2.2.2.1.length):Q190 s (j:Int) a=some (codeC a ((s.2.2.2.1.take j).map fun c=>c.1) s.2.2.2.1[j]):=by
 have he:=h.codes
 have ht:=h.txt _ (List.getElem_mem hj)
 unfold Q190 zi4 codeC
 rw[zj hj,Int.toNat_natCast,zu9 hj]
 cases decide (s.2.2.2.1[j].1<0) with
 |true=>rfl
 |false=>
  rw[zD,zD]
  cases decide (16<s.2.2.2.1[j].1) with
  |true=>rfl
  |false=>
   rw[zD,zD,zT (by omega),zC,zT (by omega),zC,List.drop_zero,zxe _ _ (by rw[List.length_take,zh];omega),zc]
   dsimp only
   cases decide (s.2.2.2.1[j].1∈(s.2.2.2.1.take j).map fun c=>c.1) with
   |true=>rfl
   |false=>rw[zD,zD,z2z _ _ ht];rfl
theorem zvp(s:Side)(h:SideOk s)(sp:Spec):∀(n j k:Nat),j+n=s.2.2.1.length→n<k→z5x k (s.2.2.1.length:Int) (j:Int) s sp=some (match echoL s.1 (s.2.2.1.take j) (s.2.2.1.drop j) j with
 |some e=> .inl (e.1,2,e.2,s,sp)
 |none=> .inr (s,sp))
 |n,j,0,_,hk=>by omega
 |0,j,k+1,hj,hk=>by
  unfold z5x z9m
  rw[zF (by omega),zD,List.drop_eq_nil_of_le (by omega)];rfl
 |n+1,j,k+1,hj,hk=>by
  have hlt:j<s.2.2.1.length:=by omega
  have he:=h.echo
  unfold z5x z9m
  rw[zT (by omega),zC,z1he s h hlt,zc,List.drop_eq_getElem_cons hlt,echoL]
  cases decide (echoC s.1 (s.2.2.1.take j) s.2.2.1[j]=0) with
  |false=>rfl
  |true=>
   rw[Bool.not_true,zD,zC]
   dsimp only
   rw[z18 (by omega),List.take_append_getElem hlt]
   exact zvp s h sp n (j+1) k (by omega) (by omega)
def zeroL(t:Bool):List Val→Bool
 | []=>t
 |c::r=>zeroL (t||decide (c.1=0)) r
theorem z10m(t:Bool):∀l:List Val,zeroL t l=(t||decide ((0:Int)∈l.map fun c=>c.1))
 | []=>by simp [zeroL]
 |c::r=>by
  rw[zeroL,z10m _ r,List.map_cons,Bool.or_assoc]
  congr 1
  rw[←Bool.decide_or]
  exact decide_eq_decide.2 ⟨fun h=>h.elim (fun e=>by rw[←e];exact List.mem_cons_self) (List.mem_cons_of_mem _),fun h=>(List.mem_cons.1 h).imp (fun e=>e.symm) id⟩
theorem zel(s:Side)(h:SideOk s)(a:Spec):∀(n j k:Nat) (t:Bool),j+n=s.2.2.2.1.length→n<k→∃t',z5y k t s.2.2.2.1 (s.2.2.2.1.length:Int) (j:Int) s a=some (match codeL a ((s.2.2.2.1.take j).map fun c=>c.1) (s.2.2.2.1.drop j) j with
 |some e=> .inl (e.1,3,e.2,t',s)
 |none=> .inr (zeroL t (s.2.2.2.1.drop j),s))
 |n,j,0,t,_,hk=>by omega
 |0,j,k+1,t,hj,hk=>by
  unfold z5y z9n
  rw[zF (by omega),zD,List.drop_eq_nil_of_le (by omega)]
  exact⟨t,rfl⟩
 |n+1,j,k+1,t,hj,hk=>by
  have hlt:j<s.2.2.2.1.length:=by omega
  have he:=h.codes
  unfold z5y z9n
  rw[zT (by omega),zC,zj hlt,z1hb s h a hlt,zc,List.drop_eq_getElem_cons hlt,codeL,zeroL]
  cases decide (codeC a ((s.2.2.2.1.take j).map fun c=>c.1) s.2.2.2.1[j]=0) with
  |false=>exact⟨t,rfl⟩
  |true=>
   rw[Bool.not_true,zD,zC]
   dsimp only
   rw[z18 (by omega),Int.toNat_natCast,zu9 hlt]
   have e:(s.2.2.2.1.take j).map (fun c=>c.1)++ [s.2.2.2.1[j].1]=(s.2.2.2.1.take (j+1)).map fun c=>c.1:=by rw[←List.take_append_getElem hlt,List.map_append];rfl
   rw[e]
   cases t with
   |true=>
    rw[zC,Bool.true_or]
    exact zel s h a n (j+1) k true (by omega) (by omega)
   |false=>
    rw[zD,Bool.false_or]
    exact zel s h a n (j+1) k _ (by omega) (by omega)
theorem zkx(s:Side)(h:SideOk s):Q188 s=some (rejC s):=by
 have he:=h.echo
 have hc:=h.codes
 unfold Q188 zhx rejC
 rw[z7k s.1 h.sch,zc]
 cases decide ((z1a s.1).1=0) with
 |false=>rfl
 |true=>
  rw[Bool.not_true,zD,zD,z36 s.1 39 h.sch,zc]
  cases hasS s.1 39 with
  |false=>rfl
  |true=>
   dsimp only
   rw[Bool.not_true,zD,zD]
   have e1:=zvp s h (getS s.1 39) s.2.2.1.length 0 FUEL (by omega) (by rw[z14];omega)
   rw[List.take_zero,List.drop_zero,show((0:Nat):Int)=0 from rfl] at e1
   rw[e1,zc]
   cases echoL s.1 [] s.2.2.1 0 with
   |some e=>rfl
   |none=>
    dsimp only
    rw[Sum.elim_inr]
    unfold zhy
    dsimp only
    obtain⟨t',e2⟩:=zel s h (getS s.1 39) s.2.2.2.1.length 0 FUEL false (by omega) (by rw[z14];omega)
    rw[List.take_zero,List.drop_zero,show((0:Nat):Int)=0 from rfl,List.map_nil] at e2
    rw[e2,zc]
    cases codeL (getS s.1 39) [] s.2.2.2.1 0 with
    |some e=>rfl
    |none=>
     dsimp only
     rw[Sum.elim_inr]
     unfold zhz
     rw[z10m,Bool.false_or]
     dsimp only
     cases decide ((0:Int)∈s.2.2.2.1.map fun c=>c.1)<;>rfl
end Groat

namespace Groat
open Go.IntKind renaming wrap→zW,i64→zI,u8→zU
open Go Go.Ref
end Groat

namespace Groat
open Go.IntKind renaming wrap→zW,i64→zI,u8→zU
open Go Go.Ref
abbrev z90:=List Side×Int×Unit
abbrev z1hw:zf:=((0:Int),(0:Int),([]:List Spec),())
abbrev side0:Side:=(z1hw,map0,([]:List Int),([]:List Val),())
abbrev tCode:Ty:= .pair (.int .i64) (.pair .str .unit)
abbrev tSide:Ty:= .pair z1hy (.pair tMap (.pair (.sl 0 (.int .i64)) (.pair (.sl 0 tCode) .unit)))
abbrev zum:Ty:= .pair (.arr 2 tSide) (.pair (.int .i64) .unit)
theorem z1a9{c:z90}(h:c.1.length=2):∃p q,c=([p,q],c.2.1,()):=by
 obtain⟨l,n,u⟩:=c
 match l,h with
 | [p,q],_=>exact⟨p,q,rfl⟩
theorem zoz:∃k,FUEL=k+1+1+1:=⟨FUEL-3,by rw[z14]⟩
def zah(s:Side):Bool:=decide ((200:Int)<(s.1.2.2.1.length:Int))||(decide ((300:Int)<(s.2.2.1.length:Int))||(decide ((300:Int)<(s.2.2.2.1.length:Int))||s.2.2.2.1.any fun c=>decide ((1200:Int)<(c.2.1.size:Int))))
theorem z18s:∀(l:List Val) (i:Int),runI (fun i (x:Val) (s:Unit) K=>(bif(decide ((1200:Int)<((x.2.1).size:Int))) then some (Sum.inl true) else K s)) (fun _=>some (Sum.inr ())) l i ()=some (bif l.any (fun c=>decide ((1200:Int)<(c.2.1.size:Int))) then Sum.inl true else Sum.inr ())
 | [],i=>rfl
 |x::r,i=>by
  rw[runI,List.any_cons]
  cases decide ((1200:Int)<(x.2.1.size:Int)) with
  |true=>rfl
  |false=>exact z18s r (i+1)
theorem zma(s:Side)(h:s.2.2.2.1.length≤maxLen):Q143 s=some (zah s):=by
 unfold Q143 zgm zah
 cases decide ((200:Int)<(s.1.2.2.1.length:Int)) with
 |true=>rfl
 |false=>
  rw[zD,Bool.false_or]
  cases decide ((300:Int)<(s.2.2.1.length:Int)) with
  |true=>rfl
  |false=>
   rw[zD,Bool.false_or]
   cases decide ((300:Int)<(s.2.2.2.1.length:Int)) with
   |true=>rfl
   |false=>
    rw[zD,Bool.false_or]
    have:=loopI vnilR s.2.2.2.1 h (fun i (x:Val) (s:Unit) K=>(bif(decide ((1200:Int)<((x.2.1).size:Int))) then some (Sum.inl true) else K s)) (fun _=>some (Sum.inr ()))
     (fun k i u=>z97 k i s) (fun k i u=>rfl) ()
    dsimp only
    rw[this,z18s]
    cases s.2.2.2.1.any (fun c=>decide ((1200:Int)<(c.2.1.size:Int)))<;>rfl
theorem zvx{s:Side}(h:zah s=false):SideOk s∧s.1.2.2.1.length≤200∧s.2.2.1.length≤300∧s.2.2.2.1.length≤300∧∀c∈s.2.2.2.1,c.2.1.size≤1200:=by
 unfold zah at h
 simp only[Bool.or_eq_false_iff,decide_eq_false_iff_not] at h
 obtain⟨h1,h2,h3,h4⟩:=h
 have ht:∀c∈s.2.2.2.1,c.2.1.size≤1200:=fun c hc=>by
  by_cases e:(1200:Int)<(c.2.1.size:Int)
  ·rw[List.any_eq_true.2 ⟨c,hc,zT e⟩] at h4;cases h4
  ·omega
 exact⟨⟨by rw[zh];omega,by omega,by omega,fun c hc=>by have:=ht c hc;omega⟩,by omega,by omega,by omega,ht⟩
structure CfgOk(p q:Side):Prop where
 sp:SideOk p
 sq:SideOk q
 pm:MapOk p.2.1
 qm:MapOk q.2.1
 p200:p.1.2.2.1.length≤200
 q200:q.1.2.2.1.length≤200
 pe:p.2.2.1.length≤300
 qe:q.2.2.1.length≤300
 pml:p.2.1.2.1.length≤300
 qml:q.2.1.2.1.length≤300
 ptxt:∀c∈p.2.2.2.1,c.2.1.size≤1200
 qtxt:∀c∈q.2.2.2.1,c.2.1.size≤1200
theorem zko{m:Map}(h:z6h m=false):m.2.1.length≤300:=by
 unfold z6h at h
 simp only[Bool.or_eq_false_iff,decide_eq_false_iff_not] at h
 omega
theorem z13n{p q:Side}{n:Int}(h:Wf zum ([p,q],n,())):∃g,Q148 ([p,q],n,())=some g∧(g=false→CfgOk p q):=by
 have hp:Wf tSide p:=h.1.2 p (by simp)
 have hq:Wf tSide q:=h.1.2 q (by simp)
 have w0:∀{R:Type} (x:Option R),zd 0 2 x=x:=fun x=>zr (by omega) (by omega)
 have w1:∀{R:Type} (x:Option R),zd 1 2 x=x:=fun x=>zr (by omega) (by omega)
 unfold Q148 zgp
 simp only[w0,w1]
 show∃g,((Q143 p).bind fun r1=>(bif r1 then some true else((Q143 q).bind fun r2=>(bif r2 then some true else((Q131 p.2.1).bind fun r3=>(bif r3 then some true else((Q131 q.2.1).bind fun r4=>some r4)))))))=some g∧_
 rw[zma p hp.2.2.2.1.1,zc]
 cases h1:zah p with
 |true=>exact⟨true,rfl,fun h=>by cases h⟩
 |false=>
  rw[zD,zma q hq.2.2.2.1.1,zc]
  cases h2:zah q with
  |true=>exact⟨true,rfl,fun h=>by cases h⟩
  |false=>
   rw[zD,z10j hp.2.1,zc]
   cases h3:z6h p.2.1 with
   |true=>exact⟨true,rfl,fun h=>by cases h⟩
   |false=>
    rw[zD,z10j hq.2.1,zc]
    refine⟨_,rfl,fun h4=> ?_⟩
    obtain⟨a1,a2,a3,a4,a5⟩:=zvx h1
    obtain⟨b1,b2,b3,b4,b5⟩:=zvx h2
    exact⟨a1,b1,zvw h3,zvw h4,a2,b2,a3,b3,zko h3,zko h4,a5,b5⟩
def cfgC(p q:Side)(n:Int):Int×Int×Int:=
 bif decide (n<1) then(5,2,0) else bif decide (65535<n) then(5,2,0)
 else bif !decide ((rejC p).1=0) then((rejC p).1,0,1) else bif !decide ((mapC p.2.1 p.1 q.1).1=0) then((mapC p.2.1 p.1 q.1).1,0,2)
 else bif !decide ((rejC q).1=0) then((rejC q).1,1,1) else bif !decide ((mapC q.2.1 q.1 p.1).1=0) then((mapC q.2.1 q.1 p.1).1,1,2) else(0,0,0)
theorem w0'{R:Type}(x:Option R):zd 0 2 x=x:=zr (by omega) (by omega)
theorem w1'{R:Type}(x:Option R):zd 1 2 x=x:=zr (by omega) (by omega)
theorem x10:zW zI ((1:Int)-(0:Int))=1:=by decide
theorem x11:zW zI ((1:Int)-(1:Int))=0:=by decide
theorem x01:zW zI ((0:Int)+(1:Int))=1:=by decide
theorem x12:zW zI ((1:Int)+(1:Int))=2:=by decide
theorem gp(p q:Side):List.getD [p,q] (0:Int).toNat side0=p:=rfl
theorem gq(p q:Side):List.getD [p,q] (1:Int).toNat side0=q:=rfl
theorem zxa(p q:Side)(n:Int)(h:CfgOk p q):Q194 ([p,q],n,())=some (cfgC p q n):=by
 obtain⟨k,hk⟩:=zoz
 unfold Q194 zi8 cfgC
 dsimp only
 cases decide (n<1) with
 |true=>rfl
 |false=>
  cases decide (65535<n) with
  |true=>rfl
  |false=>
   rw[zD,zD,zD,zD,hk]
   unfold z5z z74
   simp only[w0',w1',x10,x11,x01,x12,gp,gq]
   rw[zT (by decide:(0:Int)<2),zC,zkx p h.sp,zc]
   cases decide ((rejC p).1=0) with
   |false=>rfl
   |true=>
    rw[Bool.not_true,zD,zD,z4u p.2.1 p.1 q.1 h.pm h.sp.sch h.sq.sch,zc]
    cases decide ((mapC p.2.1 p.1 q.1).1=0) with
    |false=>rfl
    |true=>
     rw[Bool.not_true,zD,zD]
     unfold z5z z74
     simp only[w0',w1',x10,x11,x01,x12,gp,gq]
     rw[zT (by decide:(1:Int)<2),zC,zkx q h.sq,zc]
     cases decide ((rejC q).1=0) with
     |false=>rfl
     |true=>
      rw[Bool.not_true,zD,zD,z4u q.2.1 q.1 p.1 h.qm h.sq.sch h.sp.sch,zc]
      cases decide ((mapC q.2.1 q.1 p.1).1=0) with
      |false=>rfl
      |true=>
       rw[Bool.not_true,zD,zD]
       unfold z5z z74
       rw[zF (by decide:¬(2:Int)<2),zD]
       rfl
theorem zur(s:Side)(h:SideOk s)(h2:s.1.2.2.1.length≤200):Q142 s=some s:=by
 have he:=h.echo
 have hc:=h.codes
 unfold Q142 zgk
 rw[z14b s.1 (by omega),zc,zT (by simp;omega),zC,zT (by simp;omega),zC]
 rfl
theorem set_p(p q r:Side):List.set [p,q] (0:Int).toNat r=[r,q]:=rfl
theorem set_q(p q r:Side):List.set [p,q] (1:Int).toNat r=[p,r]:=rfl
theorem gp'(p q:Side):List.getD [p,q] (0:Int).toNat ((((0:Int),(0:Int),([]:List Spec),()),(([]:List Pair),([]:List Rule),()),([]:List Int),([]:List Val),()):Side)=p:=rfl
theorem gq'(p q:Side):List.getD [p,q] (1:Int).toNat ((((0:Int),(0:Int),([]:List Spec),()),(([]:List Pair),([]:List Rule),()),([]:List Int),([]:List Val),()):Side)=q:=rfl
theorem z14d(p q:Side)(n:Int)(h:CfgOk p q):Q147 ([p,q],n,())=some ([p,q],n,()):=by
 obtain⟨k,hk⟩:=zoz
 unfold Q147 zgo
 dsimp only
 rw[hk]
 unfold z5s z71
 simp only[w0',w1',x10,x11,x01,x12,gp,gq,gp',gq',set_p,set_q]
 rw[zT (by decide:(0:Int)<2),zC,zuq _ h.pm,zc,zur p h.sp h.p200,zc]
 unfold z5s z71
 simp only[w0',w1',x10,x11,x01,x12,gp,gq,gp',gq',set_p,set_q]
 rw[zT (by decide:(1:Int)<2),zC,zuq _ h.qm,zc,zur q h.sq h.q200,zc]
 unfold z5s z71
 rw[zF (by decide:¬(2:Int)<2),zD]
 rfl
end Groat

namespace Groat
open Go.IntKind renaming wrap→zW,i64→zI,u8→zU
open Go Go.Ref
theorem w0{R:Type}(x:Option R):zd 0 2 x=x:=zr (by omega) (by omega)
theorem w1{R:Type}(x:Option R):zd 1 2 x=x:=zr (by omega) (by omega)
end Groat

namespace Groat
open Go.IntKind renaming wrap→zW,i64→zI,u8→zU
open Go Go.Ref
end Groat

namespace Groat
open Go.IntKind renaming wrap→zW,i64→zI,u8→zU
open Go Go.Ref
end Groat

namespace Groat
open Go.IntKind renaming wrap→zW,i64→zI,u8→zU
open Go Go.Ref
def respM(m:ByteArray):ByteArray:=strOf [ze m 0,ze m 1,ze m 2+1,ze m 3]
theorem z1hm{m:ByteArray}(h:m.size=4):bl m=[ze m 0,ze m 1,ze m 2,ze m 3]:=by
 have hl:(bl m).length=4:=by rw[zg];exact h
 have e:=fun i=>z22 m i
 match hb:bl m,hl with
 | [a,b,c,d],_=>rw[e 0,e 1,e 2,e 3,hb];rfl
theorem z8g{m:ByteArray}(h:reqM m=true):z1c m=true∧(ze m 2=48∨ze m 2=50):=by
 unfold reqM at h
 rw[Bool.and_eq_true,Bool.or_eq_true,decide_eq_true_eq,decide_eq_true_eq] at h
 exact h
theorem z12l{m:ByteArray}(h:reqM m=true):bl (respM m)=[ze m 0,ze m 1,ze m 2+1,ze m 3]∧allD [ze m 0,ze m 1,ze m 2+1,ze m 3]=true:=by
 obtain⟨hr,h2⟩:=z8g h
 have d0:=zop hr 0 (by decide)
 have d1:=zop hr 1 (by decide)
 have d3:=zop hr 3 (by decide)
 have hd:allD [ze m 0,ze m 1,ze m 2+1,ze m 3]=true:=z2a.2 ⟨z2q.2 d0,z2a.2 ⟨z2q.2 d1,z2a.2 ⟨z2q.2 (by omega),z2a.2 ⟨z2q.2 d3,rfl⟩⟩⟩⟩
 exact⟨z21 (zvi hd),hd⟩
theorem z1hv{m:ByteArray}(h:reqM m=true):z1c (respM m)=true∧verM (respM m)=verM m∧reqM (respM m)=false:=by
 obtain⟨hr,h2⟩:=z8g h
 obtain⟨hb,hd⟩:=z12l h
 have hs:(respM m).size=4:=by rw[←zg,hb];rfl
 have hr2:z1c (respM m)=true:=z1q.2 ⟨hs,by rw[hb];exact hd⟩
 have e0:ze (respM m) 0=ze m 0:=by rw[z22 (respM m),hb];rfl
 have e2:ze (respM m) 2=ze m 2+1:=by rw[z22 (respM m),hb];rfl
 refine⟨hr2,?_,?_⟩
 ·unfold verM
  rw[hr,hr2,e0]
 ·unfold reqM
  rw[hr2,e2,zF (by omega),zF (by omega)];rfl
theorem z10q(m:ByteArray)(h:m.size≤maxLen):Q179 m=some (if reqM m=true then(respM m,true) else(bs [],false)):=by
 unfold Q179 zhl
 rw[zao m h,zc]
 cases hr:reqM m with
 |false=>rfl
 |true=>
  obtain⟨hr1,h2⟩:=z8g hr
  have h4:=(z1q.1 hr1).1
  have hb:=z1hm h4
  have z1:(m.extract 0 2).size=2:=by rw[ByteArray.size_extract];omega
  have z3:(m.extract 3 m.size).size=1:=by rw[ByteArray.size_extract];omega
  have zs:∀x:Int,(strOf [x]).size=1:=fun x=>by rw[z1z];rfl
  have hw:zW zU (ze m 2+1)=ze m 2+1:=by
   rcases h2 with e|e<;>rw[e]<;>decide
  rw[Bool.not_true,zD,show((2:Int)).toNat=2 from rfl,show((3:Int)).toNat=3 from rfl,zT (by omega),zC,show(2:Int)=((2:Nat):Int) from rfl,zj (by omega),hw,zT (by rw[z1,zs];decide),zC,zT (by omega),zC,zT (by rw[zu,z1,zs,z3];decide),zC,if_pos rfl]
  congr 2
  apply z5f
  rw[z3l,z3l,z1y,z1y,h4,hb,(z12l hr).1]
  have hx:zn (ze m 2+1):=by unfold zn;omega
  rw[z21 (xs:=[ze m 2+1]) (by simpa using hx)]
  rfl
def txtV(l:List Val)(no:Int):Option Val:=l.find? fun v=>decide (v.1=no)
theorem zz4(no:Int):∀(l:List Val) (i:Int),runI (fun i (x:Val) (s:Unit) K=>bif decide (x.1=no) then some (Sum.inl (x.2.1,true)) else K s) (fun _=>some (Sum.inr ())) l i ()=some (match txtV l no with
 |some v=> .inl (v.2.1,true)
 |none=>(.inr ():Sum Zt5 Unit))
 | [],i=>rfl
 |x::r,i=>by
  rw[runI]
  unfold txtV
  rw[List.find?_cons]
  cases hx:decide (x.1=no) with
  |true=>rfl
  |false=>exact zz4 no r (i+1)
theorem z1f5(m:Msg)(no:Int)(h:m.2.1.length≤1000000):Q173 m no=some (match txtV m.2.1 no with
 |some v=>(v.2.1,true)
 |none=>(bs [],false)):=by
 unfold Q173 zhe
 dsimp only
 have:=loopI vnil m.2.1 (by rw[zh];omega) (fun i (x:Val) (s:Unit) K=>bif decide (x.1=no) then some (Sum.inl (x.2.1,true)) else K s) (fun _=>some (Sum.inr ())) (fun k i s=>z9g k no m.2.1 (m.2.1.length:Int) i) (fun k i s=>rfl) ()
 rw[this,zz4]
 cases txtV m.2.1 no<;>rfl
end Groat

namespace Groat
open Go.IntKind renaming wrap→zW,i64→zI,u8→zU
open Go Go.Ref
def codeT(s:Side)(e:Int):ByteArray:=match txtV s.2.2.2.1 e with
 |some c=>c.2.1
 |none=>match txtV s.2.2.2.1 0 with
  |some c=>c.2.1
  |none=>bs []
theorem zva(s:Side)(e:Int)(q:List Int)(n i0:Int):∀(l:List Val) (i:Int),runI (fun i (x:Val) (u:Unit) K=>bif decide (x.1=e) then some (Sum.inl (x.2.1,q,n,i0,s)) else K u) (fun _=>some (Sum.inr (q,n,i0,s))) l i ()=some (match txtV l e with
 |some v=> .inl (v.2.1,q,n,i0,s)
 |none=>(.inr (q,n,i0,s):Sum (ByteArray×List Int×Int×Int×Side) (List Int×Int×Int×Side)))
 | [],i=>rfl
 |x::r,i=>by
  rw[runI]
  unfold txtV
  rw[List.find?_cons]
  cases hx:decide (x.1=e) with
  |true=>rfl
  |false=>exact zva s e q n i0 r (i+1)
theorem z1hc(s:Side)(hs:s.2.2.2.1.length≤1000000)(e:Int)(q:List Int)(n i0:Int):z73 FUEL e q n i0 s.2.2.2.1 (s.2.2.2.1.length:Int) 0 s=some (match txtV s.2.2.2.1 e with
 |some v=> .inl (v.2.1,q,n,i0,s)
 |none=>(.inr (q,n,i0,s):Sum (ByteArray×List Int×Int×Int×Side) (List Int×Int×Int×Side))):=by
 rw[←zva s e q n i0 s.2.2.2.1 0]
 exact loopI vnil s.2.2.2.1 (by rw[zh];omega) (fun i (x:Val) (u:Unit) K=>bif decide (x.1=e) then some (Sum.inl (x.2.1,q,n,i0,s)) else K u) (fun _=>some (Sum.inr (q,n,i0,s))) (fun k i u=>z73 k e q n i0 s.2.2.2.1 (s.2.2.2.1.length:Int) i s) (fun k i u=>rfl) ()
theorem z1f1(s:Side)(hs:s.2.2.2.1.length≤1000000)(e:Int):Q189 s e=some (codeT s e):=by
 obtain⟨k,hk⟩:=zoz
 have h1:=z1hc s hs
 unfold Q189 zi2 codeT
 dsimp only
 rw[show(List.length [e,(0:Int)]:Int)=2 from rfl]
 have step:∀(K i:Nat) (x:Int),i<2→List.getD [e,(0:Int)] i 0=x→z52 (K+1) [e,0] 2 (i:Int) s=match txtV s.2.2.2.1 x with
  |some v=>some (.inr v.2.1)
  |none=>z52 K [e,0] 2 ((i+1:Nat):Int) s:=by
  intro K i x hi hx
  conv=>lhs;unfold z52 z9o
  rw[zT (by omega),zC,show(List.length [e,(0:Int)])=2 from rfl,zj hi,Int.toNat_natCast,hx]
  dsimp only
  rw[h1,zc]
  cases txtV s.2.2.2.1 x with
  |some v=>rfl
  |none=>
   dsimp only
   rw[Sum.elim_inr]
   unfold zi3
   dsimp only
   rw[z18 (by omega)]
 have s0:=step (k+1+1) 0 e (by decide) rfl
 have s1:=step (k+1) 1 0 (by decide) rfl
 rw[show((0:Nat):Int)=0 from rfl] at s0
 rw[hk,s0]
 cases txtV s.2.2.2.1 e with
 |some v=>rfl
 |none=>
  dsimp only
  rw[s1]
  cases txtV s.2.2.2.1 0 with
  |some v=>rfl
  |none=>
   dsimp only
   unfold z52 z9o
   rw[zF (by decide)];rfl
def echoB(l:List Val):List Int→Msg→Msg
 | [],o=>o
 |no::r,o=>echoB l r (match txtV l no with
  |some v=>withM o no v.2.1
  |none=>o)
def z41(s:Side)(m:Msg)(e:Int):Msg:=withM (echoB m.2.1 s.2.2.1 (respM m.1,[],())) 39 (codeT s e)
def zym(s:Side)(m:Msg)(f:Fault):Msg×Bool:=if reqM m.1=true then(z41 s m f.1,true) else(msg0,false)
theorem zm8(m:Msg)(no:Int)(t:ByteArray):(withM m no t).2.1.length≤m.2.1.length+1:=z8j m no t
theorem zeq(l:List Val):∀(e:List Int) (o:Msg),(echoB l e o).2.1.length≤o.2.1.length+e.length
 | [],o=>Nat.le_refl _
 |no::r,o=>by
  rw[echoB,List.length_cons]
  have h:=zeq l r (match txtV l no with
   |some v=>withM o no v.2.1
   |none=>o)
  cases hx:txtV l no with
  |some v=>
   rw[hx] at h
   have:=zm8 o no v.2.1
   dsimp only at h⊢
   omega
  |none=>rw[hx] at h;dsimp only at h⊢;omega
theorem zes{ρ:Type}(m:Msg)(hm:m.2.1.length≤1000000)(fin:Msg→Option ρ):∀(l:List Int) (i:Int) (o:Msg),o.2.1.length+l.length≤1000000→
 runI (fun i (x:Int) (o:Msg) K=>(Q173 m x).bind fun r2=>(bif r2.2 then((Q175 o x r2.1).bind fun r3=>K r3) else K o)) fin l i o=fin (echoB m.2.1 l o)
 | [],i,o,_=>rfl
 |x::r,i,o,h=>by
  rw[List.length_cons] at h
  rw[runI,z1f5 m x hm,zc,echoB]
  cases hx:txtV m.2.1 x with
  |some v=>
   have:=zm8 o x v.2.1
   dsimp only
   rw[zC,zan o x _ (by omega),zc]
   exact zes m hm fin r (i+1) _ (by omega)
  |none=>exact zes m hm fin r (i+1) o (by omega)
theorem z1am(s:Side)(m:Msg)(f:Fault)(hs:SideOk s)(he:s.2.2.1.length≤300)(hm:MsgOk m):Q187 s m f=some (zym s m f):=by
 have hml:=hm.len
 unfold Q187 zht zym
 rw[z10q m.1 (by rw[zh];exact hm.mti),zc]
 cases hr:reqM m.1 with
 |false=>rfl
 |true=>
  rw[if_pos rfl,if_pos rfl,Bool.not_true,zD]
  dsimp only
  have hl:=loopI (0:Int) s.2.2.1 (by rw[zh];omega) (fun i (x:Int) (o:Msg) K=>(Q173 m x).bind fun r2=>(bif r2.2 then((Q175 o x r2.1).bind fun r3=>K r3) else K o)) (fun o=>some (s,f,msg0,o)) (fun k i o=>z9l k s.2.2.1 (s.2.2.1.length:Int) i s m f msg0 o) (fun k i o=>rfl) (respM m.1,[],())
  have hb:=zeq m.2.1 s.2.2.1 (respM m.1,[],())
  rw[hl,zes m (by omega) _ _ _ _ (by simp;omega),zc]
  unfold zhu
  dsimp only at hb⊢
  rw[z1f1 s hs.codes,zc,zan _ _ _ (by rw[List.length_nil] at hb;omega),zc]
  rfl
theorem zom{a:Spec}:∀{l:List Val} {prev:List Int} {i:Int},codeL a prev l i=none→∀c∈l,valC a c.2.1=0
 | [],_,_,_,c,hc=>by cases hc
 |x::r,prev,i,h,c,hcm=>by
  rw[codeL] at h
  by_cases hc:codeC a prev x=0
  ·rw[zT hc,zC] at h
   rcases List.mem_cons.1 hcm with rfl|hcm
   ·unfold codeC at hc
    cases h1:decide (c.1<0) with
    |true=>rw[h1] at hc;cases hc
    |false=>
     rw[h1,zD] at hc
     cases h2:decide (16<c.1) with
     |true=>rw[h2] at hc;cases hc
     |false=>
      rw[h2,zD] at hc
      cases h3:decide (c.1∈prev) with
      |true=>rw[h3] at hc;cases hc
      |false=>rw[h3,zD] at hc;exact hc
   ·exact zom h c hcm
  ·rw[zF hc] at h;cases h
structure Side0(s:Side):Prop where
 sch:(z1a s.1).1=0
 act:hasS s.1 39=true
 codes:∀c∈s.2.2.2.1,valC (getS s.1 39) c.2.1=0
 zero:(0:Int)∈s.2.2.2.1.map fun c=>c.1
theorem z1ek{s:Side}(h:(rejC s).1=0):Side0 s:=by
 unfold rejC at h
 by_cases h1:(z1a s.1).1=0
 case neg=>rw[zF h1] at h;cases h
 rw[zT h1,Bool.not_true,zD] at h
 cases h2:hasS s.1 39 with
 |false=>rw[h2] at h;cases h
 |true=>
  rw[h2,Bool.not_true,zD] at h
  have ne:∀{l:List Int} {prev:List Int} {i:Int} {e:Int×Int},echoL s.1 prev l i=some e→e.1≠0:=by
   intro l
   induction l with
   |nil=>intro _ _ _ h;cases h
   |cons x r ih=>
    intro prev i e h
    rw[echoL] at h
    by_cases hc:echoC s.1 prev x=0
    ·rw[zT hc,zC] at h;exact ih h
    ·rw[zF hc,zD] at h;cases h;exact hc
  have nc:∀{l:List Val} {prev:List Int} {i:Int} {e:Int×Int},codeL (getS s.1 39) prev l i=some e→e.1≠0:=by
   intro l
   induction l with
   |nil=>intro _ _ _ h;cases h
   |cons x r ih=>
    intro prev i e h
    rw[codeL] at h
    by_cases hc:codeC (getS s.1 39) prev x=0
    ·rw[zT hc,zC] at h;exact ih h
    ·rw[zF hc,zD] at h;cases h;exact hc
  cases h3:echoL s.1 [] s.2.2.1 0 with
  |some e=>rw[h3] at h;exact absurd h (ne h3)
  |none=>
   rw[h3] at h
   dsimp only at h
   cases h4:codeL (getS s.1 39) [] s.2.2.2.1 0 with
   |some e=>rw[h4] at h;exact absurd h (nc h4)
   |none=>
    rw[h4] at h
    dsimp only at h
    by_cases h5:(0:Int)∈s.2.2.2.1.map fun c=>c.1
    ·exact⟨h1,h2,zom h4,h5⟩
    ·rw[zF h5] at h;cases h
theorem z1cz{s:Side}(h:Side0 s)(e:Int):valC (getS s.1 39) (codeT s e)=0:=by
 unfold codeT
 cases h1:txtV s.2.2.2.1 e with
 |some c=>exact h.codes c (List.mem_of_find?_eq_some h1)
 |none=>
  cases h2:txtV s.2.2.2.1 0 with
  |some c=>exact h.codes c (List.mem_of_find?_eq_some h2)
  |none=>
   obtain⟨c,hc,h0⟩:=List.mem_map.1 h.zero
   have:=List.find?_eq_none.1 h2 c hc
   exact absurd (zT h0) this
theorem zvo(l:List Val):∀(e:List Int) (o:Msg) (v:Val),v∈(echoB l e o).2.1→v∈o.2.1∨v∈l
 | [],o,v,h=> .inl h
 |no::r,o,v,h=>by
  rw[echoB] at h
  rcases zvo l r _ v h with h|h
  ·cases hx:txtV l no with
   |none=>rw[hx] at h;exact .inl h
   |some w=>
    rw[hx] at h
    rcases(z8k o no w.2.1 v).1 h with e|⟨h,_⟩
    ·have hw:=List.find?_some hx
     have hw:w.1=no:=by simpa using hw
     right
     rw[e,←hw]
     exact List.mem_of_find?_eq_some hx
    ·exact .inl h
  ·exact .inr h
theorem zer(l:List Val):∀(e:List Int) (o:Msg),Ris o.2.1→Ris (echoB l e o).2.1∧(echoB l e o).1=o.1
 | [],o,h=>⟨h,rfl⟩
 |no::r,o,h=>by
  rw[echoB]
  cases hx:txtV l no with
  |none=>exact zer l r o h
  |some w=>
   obtain⟨h1,h2⟩:=zer l r (withM o no w.2.1) (zft h no w.2.1)
   exact⟨h1,h2⟩
structure Part(s:zf)(m:Msg):Prop where
 head:z1c m.1=true→verM m.1=s.2.1
 mti:m.1.size≤1000
 len:m.2.1.length≤200
 flds:∀v∈m.2.1,hasS s v.1=true∧valC (getS s v.1) v.2.1=0∧v.2.1.size≤999
theorem Part.ok{s:zf}{m:Msg}(h:Part s m):MsgOk m:=⟨by have:=h.mti;omega,by have:=h.len;omega,fun v hv=>by have:=(h.flds v hv).2.2;omega⟩
theorem z1cv{s:Side}(hk:Side0 s)(ho:SideOk s)(he:s.2.2.1.length≤300){m:Msg}(hm:Part s.1 m)(e:Int)(hr:reqM m.1=true):Msg0 s.1 (z41 s m e)∧Short (z41 s m e)∧reqM (z41 s m e).1=false:=by
 obtain⟨r1,r2,r3⟩:=z1hv hr
 obtain⟨b1,b2⟩:=zer m.2.1 s.2.2.1 (respM m.1,[],()) List.Pairwise.nil
 have hmti:(z41 s m e).1=respM m.1:=b2
 have ok:=(z2b s.1).1 hk.sch
 have hc:=z1cz hk e
 have hcs:(codeT s e).size≤1099511627776:=by
  unfold codeT
  split
  ·rename_i c h;exact ho.txt c (List.mem_of_find?_eq_some h)
  ·split
   ·rename_i c h;exact ho.txt c (List.mem_of_find?_eq_some h)
   ·exact Nat.zero_le _
 have hf:∀v∈(z41 s m e).2.1,hasS s.1 v.1=true∧valC (getS s.1 v.1) v.2.1=0∧v.2.1.size≤999:=fun v hv=>by
  rcases(z8k _ _ _ v).1 hv with rfl|⟨hv,_⟩
  ·obtain⟨v1,v2,v3,_,_⟩:=(z4a _ _ hcs).1 hc
   have:=z7i v1
   exact⟨hk.act,hc,by dsimp only;omega⟩
  ·rcases zvo _ _ _ v hv with hv|hv
   ·cases hv
   ·exact hm.flds v hv
 have hris:Ris (z41 s m e).2.1:=zft b1 39 (codeT s e)
 refine⟨⟨hk.sch,by rw[hmti];exact r1,by rw[hmti,r2];exact hm.head (z8g hr).1,z26.2 ⟨fun v hv=>⟨(hf v hv).1,(hf v hv).2.1⟩,hris,fun v hv=>by have:=zue ok (hf v hv).1;omega⟩⟩,⟨by rw[hmti];have:=(z1q.1 r1).1;omega,?_,fun v hv=>by have:=(hf v hv).2.2;omega⟩,by rw[hmti];exact r3⟩
 have h1:=zeq m.2.1 s.2.2.1 (respM m.1,[],())
 have h2:=zm8 (echoB m.2.1 s.2.2.1 (respM m.1,[],())) 39 (codeT s e)
 unfold z41
 dsimp only[List.length_nil] at h1
 omega
theorem zvh(s:zf)(b:ByteArray)(hb:b.size≤1099511627776):∀(r:List Int) (a:Nat) (o:List Val),(∀v∈o,hasS s v.1=true∧valC (getS s v.1) v.2.1=0∧v.2.1.size≤999)→(∀v∈(decF s b r a o).1,hasS s v.1=true∧valC (getS s v.1) v.2.1=0∧v.2.1.size≤999)∧(decF s b r a o).1.length≤o.length+r.length
 | [],a,o,h=>⟨h,Nat.le_refl _⟩
 |no::r,a,o,h=>by
  rw[decF]
  split
  ·exact⟨h,Nat.le_add_right _ _⟩
  ·rename_i hf
   have hf:hasS s no=true:=by cases hh:hasS s no with
    |true=>rfl
    |false=>exact absurd hh hf
   split
   ·exact⟨h,Nat.le_add_right _ _⟩
   ·rename_i hz
    generalize hg:z23 s.1 (getS s no) b (a:Int)=g at hz⊢
    obtain⟨t,z,e⟩:=g
    dsimp only at hz⊢
    have he:e=0:=Classical.byContradiction fun hn=>hz hn
    subst he
    obtain⟨c1,c2,c3,c4,c5,c6⟩:=zaz hb hg
    have h2:∀v∈o++ [((no,t,()):Val)],hasS s v.1=true∧valC (getS s v.1) v.2.1=0∧v.2.1.size≤999:=fun v hv=>by
     rcases List.mem_append.1 hv with hv|hv
     ·exact h v hv
     ·rw[List.mem_singleton.1 hv];exact⟨hf,c2,c5⟩
    obtain⟨i1,i2⟩:=zvh s b hb r z.toNat _ h2
    rw[List.length_append,List.length_singleton] at i2
    exact⟨i1,by rw[List.length_cons];omega⟩
theorem part0(s:zf):Part s msg0:=⟨fun h=>(by cases h),Nat.zero_le _,Nat.zero_le _,fun v hv=>(by cases hv)⟩
theorem z1d5(s:zf)(b:ByteArray)(hb:b.size≤1099511627776):Part s (decC s b).1:=by
 unfold decC
 split
 ·exact part0 s
 cases ht:typD s b with
 |inl e=>exact part0 s
 |inr q=>
  unfold typD at ht
  split at ht
  ·cases ht
  split at ht
  case isFalse=>cases ht
  rename_i hr
  injection ht with ht
  subst ht
  have h4:=(z1q.1 hr.1).1
  show Part s (decB s b (typT s.1 b) _).1
  unfold decB
  split
  ·exact⟨fun _=>hr.2,by dsimp only;omega,Nat.zero_le _,fun v hv=>by cases hv⟩
  ·obtain⟨p1,p2⟩:=zvh s b hb (elems (bmGet s.1 b (typZ s.1)).1 (bmGet s.1 b (typZ s.1)).2.1) (bmGet s.1 b (typZ s.1)).2.2.1.toNat [] (fun v hv=>by cases hv)
   have:=zb4 (bmGet s.1 b (typZ s.1)).1 (bmGet s.1 b (typZ s.1)).2.1
   rw[List.length_nil] at p2
   exact⟨fun _=>hr.2,by dsimp only;omega,by dsimp only;omega,p1⟩
end Groat

namespace Groat
open Go.IntKind renaming wrap→zW,i64→zI,u8→zU
open Go Go.Ref
theorem z1h0:Q61=some true:=by kernel_rfl
end Groat

namespace Groat
open Go.IntKind renaming wrap→zW,i64→zI,u8→zU
open Go Go.Ref
def ansC(p:Side)(n:Int)(m:Msg)(f:Fault):Int×ByteArray:=
 if reqM m.1=true then(if n<((encC p.1 (z41 p m f.1)).size:Int) then(3,bs []) else(2,encC p.1 (z41 p m f.1))) else(3,bs [])
def outT(p q:Side)(n:Int)(m:Msg)(t:Msg×Fault):Int×ByteArray:=
 if¬t.2.1=0 then ansC p n m t.2 else if n<((encC q.1 t.1).size:Int) then ansC p n m (5,129,()) else(1,encC q.1 t.1)
def outD(p q:Side)(n:Int)(d:Msg×Fault):Int×ByteArray:=if¬d.2.1=0 then ansC p n d.1 d.2 else outT p q n d.1 (z27 p.2.1 p.1 q.1 d.1)
def outC(p q:Side)(n:Int)(b:ByteArray):Int×ByteArray:=outD p q n (decC p.1 b)
structure Cfg0(p q:Side)(n:Int):Prop where
 n1:1≤n
 n2:n≤65535
 rp:(rejC p).1=0
 rq:(rejC q).1=0
 mp:(mapC p.2.1 p.1 q.1).1=0
 mq:(mapC q.2.1 q.1 p.1).1=0
theorem Cfg0.symm{p q:Side}{n:Int}(h:Cfg0 p q n):Cfg0 q p n:=⟨h.n1,h.n2,h.rq,h.rp,h.mq,h.mp⟩
theorem CfgOk.symm{p q:Side}(h:CfgOk p q):CfgOk q p:=⟨h.sq,h.sp,h.qm,h.pm,h.q200,h.p200,h.qe,h.pe,h.qml,h.pml,h.qtxt,h.ptxt⟩
theorem zlu{p q:Side}{n:Int}:(cfgC p q n).1=0↔Cfg0 p q n:=by
 unfold cfgC
 by_cases h1:n<1
 ·rw[zT h1];exact⟨fun h=>(by cases h),fun h=>by have:=h.n1;omega⟩
 by_cases h2:65535<n
 ·rw[zF h1,zT h2];exact⟨fun h=>(by cases h),fun h=>by have:=h.n2;omega⟩
 rw[zF h1,zF h2,zD,zD]
 by_cases h3:(rejC p).1=0
 case neg=>rw[zF h3];exact⟨fun h=>absurd h h3,fun h=>absurd h.rp h3⟩
 rw[zT h3,Bool.not_true,zD]
 by_cases h4:(mapC p.2.1 p.1 q.1).1=0
 case neg=>rw[zF h4];exact⟨fun h=>absurd h h4,fun h=>absurd h.mp h4⟩
 rw[zT h4,Bool.not_true,zD]
 by_cases h5:(rejC q).1=0
 case neg=>rw[zF h5];exact⟨fun h=>absurd h h5,fun h=>absurd h.rq h5⟩
 rw[zT h5,Bool.not_true,zD]
 by_cases h6:(mapC q.2.1 q.1 p.1).1=0
 case neg=>rw[zF h6];exact⟨fun h=>absurd h h6,fun h=>absurd h.mq h6⟩
 rw[zT h6]
 exact⟨fun _=>⟨by omega,by omega,h3,h5,h4,h6⟩,fun _=>rfl⟩
theorem z1de{s:zf}{m:Msg}(h:Msg0 s m):2≤(encC s m).size:=by
 have ho:=(z2b s).1 h.sch
 have:=(zwv (s:=s) ho.1 (m:=m.1) (y:=bs []) h.right).2
 have hz:2≤typZ s.1:=by unfold typZ;split<;>omega
 unfold encC
 rw[zu,zu]
 omega
theorem z12w{s:zf}{m:Msg}(h:Msg0 s m):wireC s m=(encC s m,z13):=by
 unfold wireC
 rw[if_pos (z82.2 h)]
theorem zwr{p q:Side}(h:CfgOk p q){m:Msg}(hm:MsgOk m)(ht:(z27 p.2.1 p.1 q.1 m).2.1=0):Msg0 q.1 (z27 p.2.1 p.1 q.1 m).1∧MsgOk (z27 p.2.1 p.1 q.1 m).1:=by
 rcases z8y p.2.1 p.1 q.1 m with⟨f,hf,e⟩|⟨ys,hd,e⟩
 ·rw[e] at ht;exact absurd ht hf
 ·rw[e];exact⟨hd.out h.pm hm,hd.ok h.pm hm⟩
section
variable {p q:Side} {n:Int} (h:CfgOk p q) (h0:Cfg0 p q n)
include h h0
theorem zuf{m:Msg}(hm:Part p.1 m)(f:Fault)(cl:List Side):Q198 m f p (cl,n,())=some (ansC p n m f):=by
 unfold Q198 zia ansC
 rw[z1am p m f h.sp h.pe hm.ok,zc]
 unfold zym
 cases hr:reqM m.1 with
 |false=>rfl
 |true=>
  obtain⟨b1,b2,_⟩:=z1cv (z1ek h0.rp) h.sp h.pe hm f.1 hr
  have hp:=z1de b1
  rw[if_pos rfl,if_pos rfl]
  dsimp only
  rw[Bool.not_true,zD,zus p.1 _ h.sp.sch b2.ok,zc,z12w b1]
  dsimp only
  rw[zF (fun e=>by rw[e] at hp;exact absurd hp (by decide)),zD]
  by_cases hn:n<((encC p.1 (z41 p m f.1)).size:Int)
  ·rw[zT hn,if_pos hn];rfl
  ·rw[zF hn,if_neg hn];rfl
theorem z19m(b:ByteArray)(hb:b.size≤1099511627776)(cl:List Side):((Q222 p.1 b).bind fun r2=>(bif(!(decide (r2.2.1=(0:Int)))) then((Q198 r2.1 r2.2 p (cl,n,())).bind fun r3=>some (r3.1,r3.2)) else((Q242 p.2.1 p.1 q.1 r2.1).bind fun r4=>(bif(!(decide (r4.2.1=(0:Int)))) then((Q198 r2.1 r4.2 p (cl,n,())).bind fun r5=>some (r5.1,r5.2)) else((Q238 q.1 r4.1).bind fun r6=>(bif(decide (n<((r6.1).size:Int))) then((Q198 r2.1 ((5:Int),(129:Int),()) p (cl,n,())).bind fun r7=>some (r7.1,r7.2)) else some ((1:Int),r6.1)))))))=some (outC p q n b):=by
 have hpt:=z1d5 p.1 b hb
 have hok:=hpt.ok
 rw[z14e p.1 b h.sp.sch hb,zc]
 unfold outC outD
 by_cases hd:(decC p.1 b).2.1=0
 case neg=>rw[zF hd,Bool.not_false,zC,if_pos hd,zuf h h0 hpt,zc]
 rw[zT hd,Bool.not_true,zD,if_neg (fun e=>e hd),zy8 p.2.1 p.1 q.1 _ h.pm (by have:=h.pml;omega) hok (by have:=hpt.len;omega) h.sp.sch h.sq.sch,zc]
 unfold outT
 by_cases ht:(z27 p.2.1 p.1 q.1 (decC p.1 b).1).2.1=0
 case neg=>rw[zF ht,Bool.not_false,zC,if_pos ht,zuf h h0 hpt,zc]
 obtain⟨t1,t2⟩:=zwr h hok ht
 rw[zT ht,Bool.not_true,zD,if_neg (fun e=>e ht),zus q.1 _ h.sq.sch t2,zc,z12w t1]
 dsimp only
 by_cases hn:n<((encC q.1 (z27 p.2.1 p.1 q.1 (decC p.1 b).1).1).size:Int)
 ·rw[zT hn,zC,if_pos hn,zuf h h0 hpt,zc]
 ·rw[zF hn,zD,if_neg hn]
end
def outL(p q:Side)(n link:Int)(b:ByteArray):Int×ByteArray:=
 if¬(cfgC p q n).1=0 then(0,bs []) else if link=0 then outC p q n b else if link=1 then outC q p n b else(0,bs [])
theorem zmc(p q:Side)(n link:Int)(b:ByteArray)(h:CfgOk p q)(hb:b.size≤1099511627776):Q197 ([p,q],n,()) link b=some (outL p q n link b):=by
 unfold Q197 zi9 outL
 rw[zxa p q n h,zc]
 by_cases hc:(cfgC p q n).1=0
 case neg=>rw[zF hc,if_pos hc];rfl
 have h0:=zlu.1 hc
 rw[zT hc,Bool.not_true,zD,if_neg (fun e=>e hc)]
 by_cases l0:link=0
 ·subst l0
  rw[if_pos rfl,zF (by decide),zD,zF (by decide),zD]
  simp only[w0',w1',x10,gp',gq']
  exact z19m h h0 b hb [p,q]
 ·rw[if_neg l0]
  by_cases l1:link=1
  ·subst l1
   rw[if_pos rfl,zF (by decide),zD,zF (by decide),zD]
   simp only[w0',w1',x11,gp',gq']
   exact z19m h.symm h0.symm b hb [p,q]
  ·rw[if_neg l1]
   by_cases l2:link<0
   ·rw[zT l2];rfl
   ·rw[zF l2,zD,zT (by omega)];rfl
theorem z1h1{c:z90}(hc:Wf zum c):∃p q n,c=([p,q],n,())∧∃g,Q148 c=some g∧(g=false→CfgOk p q):=by
 obtain⟨p,q,e⟩:=z1a9 hc.1.1
 obtain⟨cl,n,u⟩:=c
 simp only[Prod.mk.injEq] at e
 obtain⟨rfl,_⟩:=e
 obtain⟨g,hg,hok⟩:=z13n (p:=p) (q:=q) hc
 exact⟨p,q,n,rfl,g,hg,hok⟩
end Groat

namespace Groat
open Go.IntKind renaming wrap→zW,i64→zI,u8→zU
open Go Go.Ref
theorem zvn:∀{l:List Pair} {seen:List ByteArray} {i:Int},dupP seen l i=none→(∀p∈l,p.1∉seen)∧l.Pairwise fun x y=>x.1≠y.1
 | [],seen,i,h=>⟨fun p hp=>(by cases hp),List.Pairwise.nil⟩
 |q::r,seen,i,h=>by
  rw[dupP] at h
  by_cases e:q.1∈seen
  ·rw[if_pos e] at h;cases h
  ·rw[if_neg e] at h
   obtain⟨h1,h2⟩:=zvn h
   refine⟨fun p hp=> ?_,List.pairwise_cons.2 ⟨fun p hp he=> ?_,h2⟩⟩
   ·rcases List.mem_cons.1 hp with rfl|hp
    ·exact e
    ·exact fun hm=>h1 p hp (List.mem_append_left _ hm)
   ·exact h1 p hp (by rw[he];simp)
theorem zey{α:Type}{p:α→Bool}:∀{l:List α} {x:α},x∈l→p x=true→(∀y∈l,p y=true→y=x)→l.find? p=some x
 | [],x,h,_,_=>by cases h
 |a::r,x,h,hp,hu=>by
  rw[List.find?_cons]
  cases ha:p a with
  |true=>rw[hu a List.mem_cons_self ha]
  |false=>
   rcases List.mem_cons.1 h with rfl|h
   ·rw[hp] at ha;cases ha
   ·exact zey h hp fun y hy=>hu y (List.mem_cons_of_mem _ hy)
theorem z1ea{l:List Pair}(h:l.Pairwise fun x y=>x.1≠y.1):∀x∈l,∀y∈l,x.1=y.1→x=y:=by
 induction l with
 |nil=>intro x hx;cases hx
 |cons a r ih=>
  obtain⟨h1,h2⟩:=List.pairwise_cons.1 h
  intro x hx y hy e
  rcases List.mem_cons.1 hx with ex|hx'
  ·rcases List.mem_cons.1 hy with ey|hy'
   ·rw[ex,ey]
   ·rw[ex] at e;exact absurd e (h1 y hy')
  ·rcases List.mem_cons.1 hy with ey|hy'
   ·rw[ey] at e;exact absurd e.symm (h1 x hx')
   ·exact ih h2 x hx' y hy' e
theorem z133{l:List Pair}(h:l.Pairwise fun x y=>x.1≠y.1){p:Pair}(hp:p∈l):zo l p.1=(p.2.1,true):=by
 unfold zo
 rw[zey hp (by simp) fun y hy he=>z1ea h y hy p hp (of_decide_eq_true he)]
theorem zkd{l:List Pair}(h:bij l=true){t:ByteArray}(ht:(zo l t).2=true):zo (turnP l) (zo l t).1=(t,true):=by
 obtain⟨p,hp,e1,e2⟩:=z6r ht
 rw[e2,←e1]
 have hm:((p.2.1,p.1,()):Pair)∈turnP l:=List.mem_map.2 ⟨p,hp,rfl⟩
 exact z133 (zvn (zpq (zu2.1 h).2).2).2 hm
theorem z1cj(c:Nat):allD (List.replicate c 48)=true:=by
 rw[allD,List.all_eq_true]
 intro x hx
 rw[(List.mem_replicate.1 hx).2];rfl
theorem z1ck(c:Nat):allZ (List.replicate c 48)=true:=by
 rw[allZ,List.all_eq_true]
 intro x hx
 rw[(List.mem_replicate.1 hx).2];rfl
theorem z12k{t:ByteArray}{w:Int}(h1:1≤t.size)(h2:(t.size:Int)≤w)(h3:w≤999)(hd:allD (bl t)=true):padD t w=(strOf (List.replicate (w-t.size).toNat 48++bl t),true):=by
 rw[zpg ⟨h1,by omega,hd,by omega,h3⟩,zT h2];rfl
theorem z19d{t:ByteArray}{w:Int}(h1:1≤t.size)(h2:(t.size:Int)≤w)(h3:w≤999)(hd:allD (bl t)=true):padD (padD t w).1 (t.size:Int)=(t,true):=by
 rw[z12k h1 h2 h3 hd]
 show padD (strOf (List.replicate (w-t.size).toNat 48++bl t)) _=_
 obtain⟨c,hc⟩:∃c:Nat,w=t.size+c:=⟨(w-t.size).toNat,by omega⟩
 rw[show(w-(t.size:Int)).toNat=c by omega]
 have hd':allD (List.replicate c 48++bl t)=true:=by
  have e:allD (List.replicate c 48++bl t)=(allD (List.replicate c 48)&&allD (bl t)):=List.all_append ..
  rw[e,z1cj,hd];rfl
 have hl':(List.replicate c (48:Int)++bl t).length=c+t.size:=by rw[List.length_append,List.length_replicate,zg]
 rw[zpg ⟨by rw[z1z];omega,by rw[z1z];omega,by rw[z21 (z7w hd')];exact hd',by omega,by omega⟩,z1z,hl',z21 (z7w hd')]
 cases c with
 |zero=>
  rw[zT (by omega),zC,show((t.size:Int)-((0+t.size:Nat):Int)).toNat=0 by omega,List.replicate_zero,List.nil_append,List.nil_append,z3f]
 |succ c=>
  rw[zF (by omega),zD,show c+1+t.size-(t.size:Int).toNat=c+1 by omega,List.take_left' (by simp),List.drop_left' (by simp),z1ck,z3f];rfl
theorem zb9{r:Rule}{a b:zf}(hu:z2w r a b=true):r.1=1∨(r.1=4∧(getS a r.2.1).2.2.2.1≤(getS b r.2.2.1).2.2.2.1)∨(r.1=5∧bij r.2.2.2.2.1=true):=by
 unfold z2w at hu
 by_cases k1:r.1=1
 ·exact .inl k1
 by_cases k4:r.1=4
 ·rw[zF k1,zT k4,zD,zC] at hu
  exact .inr (.inl ⟨k4,of_decide_eq_true hu⟩)
 by_cases k5:r.1=5
 ·rw[zF k1,zF k4,zT k5] at hu
  exact .inr (.inr ⟨k5,hu⟩)
 rw[zF k1,zF k4,zF k5] at hu
 cases hu
theorem z178{r:Rule}(k:r.1=1)(b:zf)(t:ByteArray):zm r b t=((r.2.2.1,t,()),0):=by
 unfold zm;rw[zT k];rfl
theorem z179{r:Rule}(k:r.1=4){b:zf}(hb:hasS b r.2.2.1=true)(t:ByteArray):zm r b t=(bif !(padD t (getS b r.2.2.1).2.2.2.1).2 then(val0,5) else((r.2.2.1,(padD t (getS b r.2.2.1).2.2.2.1).1,()),0)):=by
 unfold zm
 rw[zF (by omega:¬r.1=1),zF (by omega:¬r.1=2),zF (by omega:¬r.1=3),zT k,hb];rfl
theorem z17a{r:Rule}(k:r.1=5)(b:zf)(t:ByteArray):zm r b t=(bif !(zo r.2.2.2.2.1 t).2 then(val0,15) else((r.2.2.1,(zo r.2.2.2.2.1 t).1,()),0)):=by
 unfold zm
 rw[zF (by omega:¬r.1=1),zF (by omega:¬r.1=2),zF (by omega:¬r.1=3),zF (by omega:¬r.1=4),zT k];rfl
theorem Rule0.pads{r:Rule}{a b:zf}(h:Rule0 r a b)(k:r.1=4):padS (getS a r.2.1)=true∧padS (getS b r.2.2.1)=true:=by
 have hk:=h.kind
 unfold kindC at hk
 rw[zF (by omega:¬r.1=1),zF (by omega:¬r.1=3),zT k,zD,zD,zC] at hk
 cases h1:padS (getS a r.2.1) with
 |false=>rw[h1] at hk;simp at hk
 |true=>
  cases h2:padS (getS b r.2.2.1) with
  |false=>rw[h1,h2] at hk;simp at hk
  |true=>exact⟨rfl,rfl⟩
theorem z1e9{r:Rule}{a b:zf}(h:Rule0 r a b)(ob:Okay b)(k:r.1=4)(hm:(getS a r.2.1).2.2.2.1≤(getS b r.2.2.1).2.2.2.1){t:ByteArray}(ht:t.size≤1099511627776)(hv:valC (getS a r.2.1) t=0):
 1≤t.size∧(t.size:Int)=(getS a r.2.1).2.2.2.1∧(t.size:Int)≤(getS b r.2.2.1).2.2.2.1∧(getS b r.2.2.1).2.2.2.1≤999∧allD (bl t)=true:=by
 obtain⟨p1,p2⟩:=h.pads k
 obtain⟨c1,c2⟩:=zph p1
 obtain⟨v1,v2,v3,v4,v5⟩:=(z4a _ t ht).1 hv
 obtain⟨f1,f2,f3,f4,f5,f6⟩:=z6b v1
 have sb:=z6k ob (h.hasB (by omega))
 obtain⟨g1,g2,g3,g4,g5,g6⟩:=z6b sb
 have e:=f5 c2
 rw[c1,zu1] at v4
 exact⟨by omega,by omega,by omega,by omega,v4⟩
theorem z134{r:Rule}{a b:zf}(h:Rule0 r a b)(ob:Okay b)(hu:z2w r a b=true){t:ByteArray}(ht:t.size≤1099511627776)(hv:valC (getS a r.2.1) t=0)(hz:(zm r b t).2=0):
 (zm r b t).1.1=r.2.2.1∧zm (turnR r) a (zm r b t).1.2.1=((r.2.1,t,()),0):=by
 rcases zb9 hu with k|⟨k,hm⟩|⟨k,hb⟩
 ·rw[z178 k,z178 (show(turnR r).1=1 from k)]
  exact⟨rfl,rfl⟩
 ·obtain⟨g1,g2,g3,g4,g5⟩:=z1e9 h ob k hm ht hv
  have hp:(padD t (getS b r.2.2.1).2.2.2.1).2=true:=by rw[z12k g1 g3 g4 g5]
  rw[z179 k (h.hasB (by omega)),hp,Bool.not_true,zD]
  refine⟨rfl,?_⟩
  show zm (turnR r) a (padD t (getS b r.2.2.1).2.2.2.1).1=_
  rw[z179 (show(turnR r).1=4 from k) (show hasS a (turnR r).2.2.1=true from h.hasA (by omega))]
  show(bif !(padD (padD t (getS b r.2.2.1).2.2.2.1).1 (getS a r.2.1).2.2.2.1).2 then(val0,(5:Int)) else((r.2.1,(padD (padD t (getS b r.2.2.1).2.2.2.1).1 (getS a r.2.1).2.2.2.1).1,()),0))=_
  rw[←g2,z19d g1 g3 g4 g5]
  rfl
 ·rw[z17a k] at hz⊢
  cases hp:(zo r.2.2.2.2.1 t).2 with
  |false=>rw[hp] at hz;exact absurd hz (by decide:¬(15:Int)=0)
  |true=>
   rw[Bool.not_true,zD]
   refine⟨rfl,?_⟩
   show zm (turnR r) a (zo r.2.2.2.2.1 t).1=_
   rw[z17a (show(turnR r).1=5 from k)]
   show(bif !(zo (turnP r.2.2.2.2.1) (zo r.2.2.2.2.1 t).1).2 then(val0,(15:Int)) else((r.2.1,(zo (turnP r.2.2.2.2.1) (zo r.2.2.2.2.1 t).1).1,()),0))=_
   rw[zkd hb hp]
   rfl
theorem z113{x y:Rule}(h:z1o x y=false)(hx:x.2.1≠0):x.2.1≠y.2.1:=by
 unfold z1o at h
 rw[Bool.or_eq_false_iff] at h
 have:=h.1
 rw[zF hx] at this
 simpa using this
theorem z18l{m:Map}{a b:zf}(h:Map0 m a b){q:Rule}(hq:q∈m.2.1)(hz:q.2.1≠0):findR m q.2.1=some q:=by
 unfold findR
 refine zey hq (by simp) fun y hy he=> ?_
 by_cases e:q=y
 ·exact e.symm
 ·exact absurd (of_decide_eq_true he).symm (z113 (zm0 h.pairs q hq y hy e) hz)
theorem z8c{m:Map}{a b:zf}(h:invC m a b=true):Map0 m a b∧bij m.1=true∧∀r∈m.2.1,z2w r a b=true:=by
 unfold invC at h
 simp only[Bool.and_eq_true,decide_eq_true_eq,List.all_eq_true] at h
 exact⟨z81.1 h.1,h.2.1,h.2.2⟩
theorem z13s{m:Map}{a b:zf}(h:invC m a b=true):z16 m.2.1=[]:=by
 cases hc:z16 m.2.1 with
 |nil=>rfl
 |cons v l=>
  obtain⟨r,hr,k,_⟩:=z4i.1 (show v∈z16 m.2.1 by rw[hc];exact List.mem_cons_self)
  rcases zb9 ((z8c h).2.2 r hr) with g|⟨g,_⟩|⟨g,_⟩<;>omega
theorem z18t{m:Map}{a b:zf}(h:invC m a b=true):z16 (turnM m).2.1=[]:=by
 cases hc:z16 (turnM m).2.1 with
 |nil=>rfl
 |cons v l=>
  obtain⟨r,hr,k,_⟩:=z4i.1 (show v∈z16 (turnM m).2.1 by rw[hc];exact List.mem_cons_self)
  obtain⟨q,hq,rfl⟩:=List.mem_map.1 (show r∈m.2.1.map turnR from hr)
  have k:q.1=3:=k
  rcases zb9 ((z8c h).2.2 q hq) with g|⟨g,_⟩|⟨g,_⟩<;>omega
section
variable {m:Map} {a b:zf} {x:Msg} {ys:List Val}
theorem z10i(hi:invC m a b=true)(hm:MapOk m)(hx:MsgOk x)(hd:Done21 m a b x ys){w:Val}(hw:w∈x.2.1){q:Rule}(hq:findR m w.1=some q)(hz:(zm q b w.2.1).2=0):
 (zm q b w.2.1).1.1≠0∧findR (turnM m) (zm q b w.2.1).1.1=some (turnR q)∧zm (turnR q) a (zm q b w.2.1).1.2.1=(w,0):=by
 obtain⟨g1,g2,g3⟩:=hd.flds
 obtain⟨i1,i2,i3⟩:=z8c hi
 obtain⟨qm,qf⟩:=z43 hq
 have r0:=zfi.1 (i1.rules q qm)
 obtain⟨e1,e2⟩:=z134 r0 i1.okB (i3 q qm) (hx.txt w hw) (by rw[qf];exact(g1 w hw).2) hz
 have hk:q.1≠2:=by rcases zb9 (i3 q qm) with g|⟨g,_⟩|⟨g,_⟩<;>omega
 have hz0:=i1.to0 qm hk
 rw[e1,e2,qf]
 exact⟨hz0,z18l (zzl hi) (q:=turnR q) (List.mem_map.2 ⟨q,qm,rfl⟩) hz0,rfl⟩
theorem z1dr(hi:invC m a b=true)(hm:MapOk m)(hx:MsgOk x)(hd:Done21 m a b x ys):z27 (turnM m) b a ((zo m.1 x.1).1,z1v (ys++z16 m.2.1) 127 2,())=(x,z13):=by
 obtain⟨g1,g2,g3⟩:=hd.flds
 obtain⟨i1,i2,i3⟩:=z8c hi
 have hc:=z13s hi
 have hmem:=hd.mem
 rw[hc] at hmem
 have out:=hd.out hm hx
 rw[hc] at out⊢
 have there:∀v∈z1v (ys++ []) 127 2,∃w∈x.2.1,findR (turnM m) v.1≠none∧∀q',findR (turnM m) v.1=some q'→zm q' a v.2.1=(w,0):=fun v hv=>by
  rcases(hmem v).1 hv with hv|⟨hv,hv0⟩
  ·cases hv
  ·obtain⟨w,hw,q,hf,h0,rfl⟩:=z39 hd.vals v hv
   obtain⟨b1,b2,b3⟩:=z10i hi hm hx hd hw hf h0
   exact⟨w,hw,by rw[b2];exact nofun,fun q' hq'=>by rw[b2] at hq';cases hq';exact b3⟩
 have hhead:=zkd i2 hd.head
 obtain⟨zs,hzs⟩:∃zs,z17 (turnM m) a (z1v (ys++ []) 127 2)= .inr zs:=z5j.2 fun v hv=>by
  obtain⟨w,hw,n1,n2⟩:=there v hv
  cases hf:findR (turnM m) v.1 with
  |none=>exact absurd hf n1
  |some q'=>exact⟨q',hf,by rw[n2 q' hf]⟩
 have hd2:Done21 (turnM m) b a ((zo m.1 x.1).1,z1v (ys++ []) 127 2,()) zs:=⟨zzl hi,out,by show(zo (turnP m.1) (zo m.1 x.1).1).2=true;rw[hhead],hzs⟩
 rw[hd2.eq]
 have hl:z1v (zs++z16 (turnM m).2.1) 127 2=x.2.1:=by
  refine zuj hd2.ris g2 fun w=> ?_
  rw[hd2.mem,z18t hi]
  constructor
  ·rintro(hw|⟨hw,hw0⟩)
   ·cases hw
   ·obtain⟨v,hv,q',hf,h0,rfl⟩:=z39 hzs w hw
    obtain⟨u,hu,n1,n2⟩:=there v hv
    rw[n2 q' hf];exact hu
  ·intro hw
   right
   refine⟨?_,by have:=g3 w hw;omega⟩
   obtain⟨q,hf,h0,hin⟩:=zb5 hd.vals w hw
   obtain⟨b1,b2,b3⟩:=z10i hi hm hx hd hw hf h0
   obtain⟨q',f1,f2,f3⟩:=zb5 hzs (zm q b w.2.1).1 ((hmem _).2 (.inr ⟨hin,b1⟩))
   rw[b2] at f1
   cases f1
   rw[b3] at f3
   exact f3
 rw[hl]
 show(((zo (turnP m.1) (zo m.1 x.1).1).1,x.2.1,()),z13)=_
 rw[hhead]
end
theorem z1a6(m:Map):(turnM m).2.1.length=m.2.1.length:=by show(m.2.1.map turnR).length=_;rw[List.length_map]
end Groat

namespace Groat
open Go.IntKind renaming wrap→zW,i64→zI,u8→zU
open Go Go.Ref
theorem zea(p:Side)(n:Int)(m:Msg)(f:Fault):(ansC p n m f).1≠1∧(reqM m.1=false→(ansC p n m f).1≠2):=by
 unfold ansC
 split
 ·rename_i hr
  split
  ·exact⟨by decide,fun _=>by decide⟩
  ·exact⟨show(2:Int)≠1 by decide,fun h=>by rw[hr] at h;cases h⟩
 ·exact⟨by decide,fun _=>by decide⟩
section
variable {p q:Side} {n:Int} (h:CfgOk p q) (h0:Cfg0 p q n)
include h
theorem z1ka{b s:ByteArray}(hb:b.size≤1099511627776)(ho:outC p q n b=(1,s)):∃m x,Msg0 p.1 m∧Short m∧encC p.1 m=b∧z27 p.2.1 p.1 q.1 m=(x,z13)∧Msg0 q.1 x∧Short x∧s=encC q.1 x∧(s.size:Int)≤n:=by
 unfold outC outD at ho
 split at ho
 ·have:=(zea p n (decC p.1 b).1 (decC p.1 b).2).1
  rw[ho] at this;exact absurd rfl this
 rename_i hd
 have hd:(decC p.1 b).2.1=0:=Classical.byContradiction hd
 obtain⟨d1,d2,d3,d4⟩:=z185 (m:=(decC p.1 b).1) (f:=(decC p.1 b).2) hb rfl hd
 unfold outT at ho
 split at ho
 ·have:=(zea p n (decC p.1 b).1 (z27 p.2.1 p.1 q.1 (decC p.1 b).1).2).1
  rw[ho] at this;exact absurd rfl this
 rename_i ht
 have ht:(z27 p.2.1 p.1 q.1 (decC p.1 b).1).2.1=0:=Classical.byContradiction ht
 split at ho
 ·have:=(zea p n (decC p.1 b).1 (5,129,())).1
  rw[ho] at this;exact absurd rfl this
 rename_i hn
 obtain⟨t1,t2⟩:=zwr h d3.ok ht
 have he:(z27 p.2.1 p.1 q.1 (decC p.1 b).1).2=z13:=by
  rcases z8y p.2.1 p.1 q.1 (decC p.1 b).1 with⟨f,hf,e⟩|⟨ys,_,e⟩
  ·rw[e] at ht;exact absurd ht hf
  ·rw[e]
 injection ho with _ ho
 exact⟨_,_,d2,d3,d4,Prod.ext rfl he,t1,zpe t2 t1,ho.symm,by rw[←ho];omega⟩
include h0
end
theorem z13u{p q:Side}{n link:Int}{b:ByteArray}(h:(outL p q n link b).1≠0):Cfg0 p q n∧((link=0∧outL p q n link b=outC p q n b)∨(link=1∧outL p q n link b=outC q p n b)):=by
 unfold outL at h⊢
 by_cases hc:(cfgC p q n).1=0
 case neg=>rw[if_pos hc] at h;exact absurd rfl h
 rw[if_neg (fun e=>e hc)] at h⊢
 refine⟨zlu.1 hc,?_⟩
 by_cases l0:link=0
 ·rw[if_pos l0];exact .inl ⟨l0,rfl⟩
 ·rw[if_neg l0] at h⊢
  by_cases l1:link=1
  ·rw[if_pos l1];exact .inr ⟨l1,rfl⟩
  ·rw[if_neg l1] at h;exact absurd rfl h
theorem z12m(s:Side)(c:z90)(t:Int)(hs:s.2.2.1.length≤1000000):∀(m j k:Nat),j+m=s.2.2.1.length→m<k→z5t k t (j:Int) c c s s=some (.inr (t,c,c,s,s))
 |m,j,0,_,hk=>by omega
 |0,j,k+1,hj,hk=>by
  unfold z5t z99
  rw[zF (by omega)];rfl
 |m+1,j,k+1,hj,hk=>by
  unfold z5t z99
  rw[zT (by omega),zC,zj (by omega),zj (by omega),zT rfl,Bool.not_true,zD,z18 (by omega)]
  exact z12m s c t hs m (j+1) k (by omega) (by omega)
theorem z12n(s:Side)(c:z90)(t:Int)(hs:s.2.2.2.1.length≤1000000):∀(m j k:Nat),j+m=s.2.2.2.1.length→m<k→z5u k t (j:Int) c c s s=some (.inr (t,c,c))
 |m,j,0,_,hk=>by omega
 |0,j,k+1,hj,hk=>by
  unfold z5u z9a
  rw[zF (by omega)];rfl
 |m+1,j,k+1,hj,hk=>by
  unfold z5u z9a
  rw[zT (by omega),zC,zj (by omega),zj (by omega),zT rfl,zT rfl,Bool.true_and,Bool.true_and,Bool.not_true,zD,z18 (by omega)]
  exact z12n s c t hs m (j+1) k (by omega) (by omega)
theorem zwl(c:z90)(s:Side)(hs:SideOk s)(hm:MapOk s.2.1)(i:Nat)(hi:i<2)(hc:List.getD c.1 i side0=s)(K:Nat):z50 (K+1) (i:Int) c c=z50 K ((i+1:Nat):Int) c c:=by
 have he:=hs.echo
 have hd:=hs.codes
 have a1:=z12m s c (i:Int) he s.2.2.1.length 0 FUEL (by omega) (by rw[z14];omega)
 have b1:=z12n s c (i:Int) hd s.2.2.2.1.length 0 FUEL (by omega) (by rw[z14];omega)
 rw[show((0:Nat):Int)=0 from rfl] at a1 b1
 have hc':List.getD c.1 i ((((0:Int),(0:Int),([]:List Spec),()),(([]:List Pair),([]:List Rule),()),([]:List Int),([]:List Val),()):Side)=s:=hc
 conv=>lhs;unfold z50 z98
 rw[zT (by omega),zC,zj hi,zj hi]
 simp only[Int.toNat_natCast,hc']
 rw[z171 _ _ hs.sch,zc,zT rfl,Bool.not_true,zD,z172 _ _ hm,zc,zT rfl,Bool.not_true,zD]
 simp only[decide_true,Bool.not_true,zD]
 rw[a1,zc]
 rw[Sum.elim_inr]
 unfold zgu
 try dsimp only
 rw[b1,zc]
 try dsimp only
 rw[Sum.elim_inr]
 unfold zgv
 try dsimp only
 rw[z18 (by omega)]
theorem z10r(p q:Side)(n:Int)(h:CfgOk p q):Q152 ([p,q],n,()) ([p,q],n,())=some true:=by
 obtain⟨k,hk⟩:=zoz
 have s0:=zwl ([p,q],n,()) p h.sp h.pm 0 (by decide) rfl (k+1+1)
 have s1:=zwl ([p,q],n,()) q h.sq h.qm 1 (by decide) rfl (k+1)
 rw[show((0:Nat):Int)=0 from rfl] at s0
 unfold Q152 zgt
 dsimp only
 rw[zT rfl,Bool.not_true,zD,hk,s0,s1]
 unfold z50 z98
 rw[zF (by decide)];rfl
theorem zbp(p q:Side)(n:Int):Q196 ([p,q],n,())=some ([q,p],n,()):=rfl
theorem z1es{p q:Side}(h:CfgOk p q):CfgOk p (q.1,turnM p.2.1,q.2.2.1,q.2.2.2.1,()):=⟨h.sp,⟨h.sq.sch,h.sq.echo,h.sq.codes,h.sq.txt⟩,h.pm,h.pm.turn,h.p200,h.q200,h.pe,h.qe,h.pml,by rw[z1a6];exact h.pml,h.ptxt,h.qtxt⟩
theorem pure_RouteMirrors(c:z90)(b:ByteArray)(hc:Wf zum c)(hb:Wf .str b):Q58 c b=some true:=by
 obtain⟨p,q,n,rfl,g,hg,hok⟩:=z1h1 hc
 unfold Q58 zoa
 rw[z1h0,zc,Bool.not_true,zD,hg,zc]
 cases g with
 |true=>rfl
 |false=>
  have h:=hok rfl
  rw[zD]
  by_cases hs:(3000:Int)<(b.size:Int)
  ·rw[zT hs];rfl
  rw[zF hs,zD,z14d p q n h,zc,zbp,zc,zbp,zc,z10r p q n h,zc,Bool.not_true,zD]
  simp only[w0',w1',gp',gq']
  rw[z116 p.2.1 p.1 q.1 h.pm h.sp.sch h.sq.sch,zc]
  cases hi:invC p.2.1 p.1 q.1 with
  |false=>rfl
  |true=>
   rw[Bool.not_true,zD,zc,z1gy p.2.1 h.pm,zc]
   simp only[set_q,gq']
   have h2:=z1es h
   generalize hq:((q.1,turnM p.2.1,q.2.2.1,q.2.2.2.1,()):Side)=r at h2
   rw[zmc p r n 0 b h2 (by omega),zc]
   by_cases hk:(outL p r n 0 b).1=1
   case neg=>rw[zF hk];rfl
   rw[zT hk,Bool.not_true,zD]
   by_cases hn:n<(b.size:Int)
   ·rw[zT hn];rfl
   obtain⟨h0,hcs⟩:=z13u (p:=p) (q:=r) (n:=n) (link:=0) (b:=b) (by rw[hk];decide)
   have e:outL p r n 0 b=outC p r n b:=by
    rcases hcs with⟨_,e⟩|⟨e,_⟩
    ·exact e
    ·cases e
   rw[e] at hk⊢
   obtain⟨m,x,m1,m2,m3,m4,x1,x2,x3,x4⟩:=z1ka h2 (b:=b) (s:=(outC p r n b).2) (by omega) (Prod.ext hk rfl)
   have hz:=z18f (s:=r.1) x2
   have hback:z27 r.2.1 r.1 p.1 x=(m,z13):=by
    rw[←hq]
    rw[←hq] at m4
    rcases z8y p.2.1 p.1 q.1 m with⟨f,hf,e⟩|⟨ys,hd,e⟩
    ·rw[e] at m4;injection m4 with _ m4;rw[m4] at hf;exact absurd rfl hf
    ·rw[e] at m4
     injection m4 with m4 _
     have:=z1dr hi h.pm m2.ok hd
     rw[m4] at this
     exact this
   rw[zF hn,zD,zbp,zc,x3,zmc r p n 0 _ h2.symm (by omega),zc]
   have hfin:outL r p n 0 (encC r.1 x)=(1,b):=by
    unfold outL
    rw[if_neg (fun e=>e (zlu.2 h0.symm)),if_pos rfl]
    unfold outC outD
    rw[z1d4 x1 x2]
    dsimp only
    rw[if_neg (fun e=>e rfl),hback]
    unfold outT
    dsimp only
    rw[if_neg (fun e=>e rfl),m3,if_neg hn]
   rw[hfin]
   dsimp only
   rw[zT rfl,zC,zT rfl]
end Groat

