/- No condition. -/
import Derived.Test.YtpjkbbihjoflnaaGreatDoorK2
import Derived.Laws.RangeString
set_option linter.unusedVariables false
set_option linter.unusedSimpArgs false
set_option maxRecDepth 100000
namespace bA
open Go.IntKind renaming wrap->zW,i64->zI,u8->zU
open Go Go.Ref
abbrev Ox:=Int×Int×Unit
abbrev fI:Nat:=18446744073709551616
def dv(h l:Nat)(n:Int):Bool:=
 if 1<=n/\n<=64 then h.testBit (64-n).toNat else if 65<=n/\n<=128 then l.testBit (128-n).toNat else false
def ig(n:Int):Nat:=if 1<=n/\n<=64 then 2^(64-n).toNat else 0
def ii(n:Int):Nat:=if 65<=n/\n<=128 then 2^(128-n).toNat else 0
theorem zlg{k:Nat}(h:k<64):2^k<fI:=Nat.pow_lt_pow_right (by decide) h
theorem zvx(n:Int):ig n<fI:=by
 unfold ig;split
 ·exact zlg (by omega)
 ·decide
theorem zvy(n:Int):ii n<fI:=by
 unfold ii;split
 ·exact zlg (by omega)
 ·decide
theorem GH{k:Nat}(h:k<64):IntKind.u64.wrap ((1:Int)*2^min k 64)=((2^k:Nat):Int):=by
 rw[Nat.min_eq_left (by omega),Int.one_mul]
 have:=zlg h
 have e:((2:Int)^k)=((2^k:Nat):Int):=by simp
 rw[e]
 exact zwh this
theorem acA(n:Int):AG n=some ((ig n:Int),(ii n:Int),()):=by
 unfold AG NP ig ii
 by_cases h1:n<1
 ·rw[zT h1,if_neg (by omega),if_neg (by omega)];rfl
 rw[zF h1,zD]
 by_cases h2:128<n
 ·rw[zT h2,if_neg (by omega),if_neg (by omega)];rfl
 rw[zF h2,zD]
 by_cases h3:n<=64
 ·rw[zT h3,zC,zo (by omega) (by omega),zF (by omega),zD,GH (by omega),if_pos (by omega),if_neg (by omega)];rfl
 ·rw[zF h3,zD,zo (by omega) (by omega),zF (by omega),zD,GH (by omega),if_neg (by omega),if_pos (by omega)];rfl
theorem zaq(h l h' l':Nat)(hh:h<fI)(hl:l<fI)(yb:h'<fI)(iS:l'<fI):pU ((h:Int),(l:Int),()) ((h':Int),(l':Int),())=some (((h|||h':Nat):Int),((l|||l':Nat):Int),()):=by
 unfold pU NN
 rw[EL hh yb,EL hl iS]
theorem FZ(h l h' l':Nat)(hh:h<fI)(hl:l<fI)(yb:h'<fI)(iS:l'<fI):pT ((h:Int),(l:Int),()) ((h':Int),(l':Int),())=some (((h&&&h':Nat):Int),((l&&&l':Nat):Int),()):=by
 unfold pT NM
 rw[vA hh yb,vA hl iS]
theorem aaD(h l:Nat)(hh:h<fI)(hl:l<fI)(n:Int):AF ((h:Int),(l:Int),()) n=some (((h|||ig n:Nat):Int),((l|||ii n:Nat):Int),()):=by
 unfold AF NO
 rw[acA,zf,zaq h l _ _ hh hl (zvx n) (zvy n)];rfl
theorem qP{a b:Nat}(ha:a<fI)(hb:b<fI):a|||b<fI:=Nat.or_lt_two_pow (n:=64) ha hb
theorem GY{a b:Nat}(ha:a<fI):a&&&b<fI:=Nat.lt_of_le_of_lt Nat.and_le_left ha
theorem acI(h l h' l':Nat)(n:Int):dv (h|||h') (l|||l') n=(dv h l n||dv h' l' n):=by
 unfold dv;split
 ·rw[Nat.testBit_or]
 ·split
  ·rw[Nat.testBit_or]
  ·rfl
theorem z143(h l h' l':Nat)(n:Int):dv (h&&&h') (l&&&l') n=(dv h l n&&dv h' l' n):=by
 unfold dv;split
 ·rw[Nat.testBit_and]
 ·split
  ·rw[Nat.testBit_and]
  ·rfl
def hI(n:Int):Bool:=decide (1<=n/\n<=128)
theorem aaS(m n:Int):dv (ig m) (ii m) n=(decide (m=n)&&hI n):=by
 unfold dv ig ii hI
 by_cases h1:1<=n/\n<=64
 ·rw[if_pos h1]
  by_cases h2:1<=m/\m<=64
  ·rw[if_pos h2,Nat.testBit_two_pow,zT (p:=1<=n/\n<=128) (by omega),Bool.and_true]
   exact decide_eq_decide.2 (by omega)
  ·rw[if_neg h2,zF (by omega:¬m=n)];simp
 ·rw[if_neg h1]
  by_cases h3:65<=n/\n<=128
  ·rw[if_pos h3]
   by_cases h2:65<=m/\m<=128
   ·rw[if_pos h2,Nat.testBit_two_pow,zT (p:=1<=n/\n<=128) (by omega),Bool.and_true]
    exact decide_eq_decide.2 (by omega)
   ·rw[if_neg h2,zF (by omega:¬m=n)];simp
  ·rw[if_neg h3,zF (p:=1<=n/\n<=128) (by omega),Bool.and_false]
theorem YH(h l:Nat)(m n:Int):dv (h|||ig m) (l|||ii m) n=(dv h l n||(decide (m=n)&&hI n)):=by rw[acI,aaS]
theorem aa5{h l h' l':Nat}(hh:h<fI)(hl:l<fI)(yb:h'<fI)(iS:l'<fI)(e:∀n:Int,1<=n->n<=128->dv h l n=dv h' l' n):h=h'/\l=l':=by
 constructor
 ·apply Nat.eq_of_testBit_eq
  intro i
  by_cases hi:i<64
  ·have:=e (64-i) (by omega) (by omega)
   unfold dv at this
   rw[if_pos (by omega),if_pos (by omega)] at this
   have e2:(64-(64-(i:Int))).toNat=i:=by omega
   rwa [e2] at this
  ·rw[Nat.testBit_lt_two_pow (Nat.lt_of_lt_of_le hh (Nat.pow_le_pow_right (n:=2) (by decide) (by omega:64<=i))),Nat.testBit_lt_two_pow (Nat.lt_of_lt_of_le yb (Nat.pow_le_pow_right (n:=2) (by decide) (by omega:64<=i)))]
 ·apply Nat.eq_of_testBit_eq
  intro i
  by_cases hi:i<64
  ·have:=e (128-i) (by omega) (by omega)
   unfold dv at this
   have h1:¬(1<=128-(i:Int)/\128-(i:Int)<=64):=by omega
   have h2:65<=128-(i:Int)/\128-(i:Int)<=128:=by omega
   rw[if_neg h1,if_pos h2,if_neg h1,if_pos h2] at this
   have e2:(128-(128-(i:Int))).toNat=i:=by omega
   rwa [e2] at this
  ·rw[Nat.testBit_lt_two_pow (Nat.lt_of_lt_of_le hl (Nat.pow_le_pow_right (n:=2) (by decide) (by omega:64<=i))),Nat.testBit_lt_two_pow (Nat.lt_of_lt_of_le iS (Nat.pow_le_pow_right (n:=2) (by decide) (by omega:64<=i)))]
def gl(l:List Int):Nat:=l.foldl (fun a n=>a|||ig n) 0
def gm(l:List Int):Nat:=l.foldl (fun a n=>a|||ii n) 0
theorem zou(f:Int->Nat)(hf:∀n,f n<fI)(l:List Int):∀a,a<fI->l.foldl (fun a n=>a|||f n) a<fI:=by
 induction l with
 |nil=>intro a h;exact h
 |cons x r ih=>intro a h;exact ih _ (qP h (hf x))
theorem um(l:List Int):gl l<fI:=zou _ zvx l 0 (by decide)
theorem z40(l:List Int):gm l<fI:=zou _ zvy l 0 (by decide)
theorem YE(l:List Int):∀(a b:Nat) (n:Int),dv (l.foldl (fun a n=>a|||ig n) a) (l.foldl (fun a n=>a|||ii n) b) n=(dv a b n||(decide (n∈l)&&hI n)):=by
 induction l with
 |nil=>intro a b n;simp
 |cons x r ih=>
  intro a b n
  rw[List.foldl_cons,List.foldl_cons,ih,YH]
  by_cases h1:x=n
  ·subst h1;cases hI x<;>simp
  ·have:n≠x:=fun e=>h1 e.symm
   simp [h1,this]
theorem ME(l:List Int)(n:Int):dv (gl l) (gm l) n=(decide (n∈l)&&hI n):=by
 unfold gl gm
 rw[YE]
 have:dv 0 0 n=false:=by unfold dv;simp
 rw[this];simp
theorem aaY(xs:List Int)(hx:xs.length<=9223372036854775807)(b0:Ox):∀(n j k:Nat) (a b:Nat),j+n=xs.length->n<k->a<fI->b<fI->
 wN k xs (xs.length:Int) j b0 ((a:Int),(b:Int),())=some (b0,((((xs.drop j).foldl (fun a n=>a|||ig n) a:Nat):Int),(((xs.drop j).foldl (fun a n=>a|||ii n) b:Nat):Int),())):=by
 intro n
 induction n with
 |zero=>
  intro j k a b hj hk ha hb
  obtain⟨k,rfl⟩:∃k',k=k'+1:=⟨k-1,by omega⟩
  rw[wN,Ij,zF (by omega),List.drop_eq_nil_of_le (by omega)];rfl
 |succ n ih=>
  intro j k a b hj hk ha hb
  obtain⟨k,rfl⟩:∃k',k=k'+1:=⟨k-1,by omega⟩
  have aw:j<xs.length:=by omega
  have EA:xs.getD ((j:Int)).toNat 0=xs[j]:=by rw[Int.toNat_natCast,List.getD_eq_getElem?_getD,List.getElem?_eq_getElem aw];rfl
  rw[wN,Ij,zT (by omega),zC,zm aw,EA,aaD a b ha hb,zf,jF (by omega),ih (j+1) k _ _ (by omega) (by omega) (qP ha (zvx _)) (qP hb (zvy _)),List.drop_eq_getElem_cons aw]
  rfl
theorem uz(xs:List Int)(hx:xs.length<=maxLen):rA xs=some ((gl xs:Int),(gm xs:Int),()):=by
 rw[zk] at hx
 unfold rA NK
 have:=aaY xs hx (0,0,()) xs.length 0 ah 0 0 (by omega) (by rw[hM];omega) (by decide) (by decide)
 simp only[NL]
 have e:wN ah xs (xs.length:Int) 0 (0,0,()) (0,0,())=_:=this
 rw[e];rfl
theorem zxo(n a:Nat)(h:a<2^n):(BitVec.ofInt n (a:Int)).toNat=a:=by
 rw[BitVec.toNat_ofInt]
 have h2:((a:Int)% ((2^n:Nat):Int))=((a % 2^n:Nat):Int):=by rfl
 rw[h2,Int.toNat_natCast,Nat.mod_eq_of_lt h]
theorem Sd{k:IntKind}{a b:Nat}(ha:a<2^k.bits)(hb:b<2^k.bits):aU .or k a b=k.wrap ((a|||b:Nat):Int):=by
 simp only[aU,BitVec.toNat_or,zxo _ _ ha,zxo _ _ hb]
def Jk(b:List Int):Int:=if b.length<2 then 0 else b.getD 0 0*256+b.getD 1 0
theorem FE{x y:Int}(hx:jH x)(hy:jH y):aU .or .i64 (zW zI (zW zI x*2^min (8:Int).toNat 64)) (zW zI y)=x*256+y:=by
 unfold jH at hx hy
 obtain⟨x,rfl⟩:=Int.eq_ofNat_of_zero_le hx.1
 obtain⟨y,rfl⟩:=Int.eq_ofNat_of_zero_le hy.1
 rw[Ib (by omega),Ib (by omega)]
 have h1:((x:Int)*(2:Int)^min (8:Int).toNat 64)=((x<<<8:Nat):Int):=by
  rw[Nat.shiftLeft_eq];rfl
 have h3:x<<<8=x*256:=by rw[Nat.shiftLeft_eq]
 rw[h1,Ib (by omega),Sd (by simp only[IntKind.bits];omega) (by simp only[IntKind.bits];omega),<-Nat.shiftLeft_add_eq_or_of_lt (by omega:y<2^8),h3,Ib (by omega)]
 omega
theorem VN{b:List Int}(hb:∀x∈b,jH x)(i:Nat):jH (b.getD i 0):=by
 rw[List.getD_eq_getElem?_getD]
 cases h:b[i]? with
 |none=>exact⟨by simp,by simp⟩
 |some x=>exact hb x (List.mem_of_getElem? h)
abbrev Fr:=Int×Bool×List Int×Unit
def DQ(m:Int)(st:Bool×List Int×List ByteArray)(c:Int):Bool×List Int×List ByteArray:=
 if st.1=true then st
 else if(st.2.1++ [c]).length=2/\(Jk (st.2.1++ [c])=0\/m<Jk (st.2.1++ [c])) then(true,[],st.2.2)
 else if((st.2.1++ [c]).length:Int)=2+Jk (st.2.1++ [c])/\0<Jk (st.2.1++ [c]) then(false,[],st.2.2++ [strOf ((st.2.1++ [c]).drop 2)])
 else(false,st.2.1++ [c],st.2.2)
section
variable {α:Type} [DecidableEq α]
end
end bA

namespace bA
open Go.IntKind renaming wrap->zW,i64->zI,u8->zU
open Go Go.Ref
theorem YF{l:List Int}{j:Nat}(h:j<l.length):l.getD ((j:Int)).toNat 0=l[j]:=by
 rw[Int.toNat_natCast,List.getD_eq_getElem?_getD,List.getElem?_eq_getElem h];rfl
theorem VQ(l:List Int)(n:Int)(hl:l.length<=maxLen):∀(m j k:Nat),j+m=l.length->m<k->
 zY k l n j=some (if n∈l.drop j then .inl true else .inr ()):=by
 intro m
 rw[zk] at hl
 induction m with
 |zero=>
  intro j k hj hk
  obtain⟨k,rfl⟩:∃k',k=k'+1:=⟨k-1,by omega⟩
  rw[zY,HB,zF (by omega),List.drop_eq_nil_of_le (by omega)];simp
 |succ m ih=>
  intro j k hj hk
  obtain⟨k,rfl⟩:∃k',k=k'+1:=⟨k-1,by omega⟩
  have aw:j<l.length:=by omega
  rw[zY,HB,zT (by omega),zC,zm aw,YF aw,jF (by omega),List.drop_eq_getElem_cons aw]
  by_cases h:l[j]=n
  ·rw[zT h,if_pos (by rw[h];simp)];rfl
  ·rw[zF h,zD,ih (j+1) k (by omega) (by omega)]
   have:n≠l[j]:=fun e=>h e.symm
   simp only[List.mem_cons,this,false_or]
theorem Zi(l:List Int)(n:Int)(hl:l.length<=maxLen):pc l n=some (decide (n∈l)):=by
 unfold pc J4
 dsimp only
 have:=VQ l n hl l.length 0 ah (by omega) (by rw[hM];rw[zk] at hl;omega)
 rw[show((0:Nat):Int)=0 from rfl,List.drop_zero] at this
 rw[this,zf]
 by_cases h:n∈l
 ·rw[if_pos h,zT h];rfl
 ·rw[if_neg h,zF h];rfl
abbrev Spec:=Int×Int×Int×Int×Int×Unit
abbrev ze:=Int×Int×List Spec×Unit
abbrev cK:Spec:=(0,0,0,0,0,())
theorem MF(c:Int):uA c=some (if c=1 then 1 else if c=2 then 2 else if c=3 then 3 else if c=4 then 7 else if c=5 then 15 else if c=6 then 15 else 0):=by
 unfold uA Na
 simp only[aaI]
 repeat' split
 all_goals rfl
theorem zka(c:Int):wW c=some (decide (1<=c/\c<=6)):=by
 unfold wW M0
 rw[MF,zf]
 congr 1
 by_cases h1:c=1
 ·subst h1;rfl
 by_cases h2:c=2
 ·subst h2;rfl
 by_cases h3:c=3
 ·subst h3;rfl
 by_cases h4:c=4
 ·subst h4;rfl
 by_cases h5:c=5
 ·subst h5;rfl
 by_cases h6:c=6
 ·subst h6;rfl
 rw[if_neg h1,if_neg h2,if_neg h3,if_neg h4,if_neg h5,if_neg h6,zF (p:=1<=c/\c<=6) (by omega)]
 rfl
theorem BZ:nN 2=some 99:=by kernel_rfl
theorem B3:nN 3=some 999:=by kernel_rfl
def bK(s:Spec):Int:=
 if s.1<2\/128<s.1 then 1 else if s.2.1<1\/6<s.2.1 then 6 else if s.2.2.1<1\/3<s.2.2.1 then 3
 else if s.2.2.2.1<1\/s.2.2.2.2.1<s.2.2.2.1\/(s.2.2.1=2/\99<s.2.2.2.2.1)\/999<s.2.2.2.2.1\/(s.2.2.1=1/\¬s.2.2.2.1=s.2.2.2.2.1) then 5
 else if s.2.2.1=1/\s.2.1=6 then 13 else 0
theorem Jp(s:Spec):jL s=some (bK s):=by
 obtain⟨no,c,f,mn,mx,u⟩:=s
 unfold jL L2 bK
 simp only[zka,zf]
 by_cases h1:no<2\/128<no
 ·rw[if_pos h1]
  rcases h1 with h|h
  ·rw[zT h];rfl
  ·rw[zT h];cases decide (no<2)<;>rfl
 rw[if_neg h1,zF (by omega),zF (by omega)]
 by_cases h2:c<1\/6<c
 ·rw[if_pos h2,zF (p:=1<=c/\c<=6) (by omega)];rfl
 rw[if_neg h2,zT (p:=1<=c/\c<=6) (by omega)]
 simp only[zD,Bool.not_true]
 by_cases h3:f<1\/3<f
 ·rw[if_pos h3]
  rcases h3 with h|h
  ·rw[zT h];rfl
  ·rw[zT h];cases decide (f<1)<;>rfl
 rw[if_neg h3,zF (by omega),zF (by omega)]
 simp only[zD]
 by_cases h4:mn<1\/mx<mn\/999<mx
 ·rw[if_pos (by omega)]
  by_cases a:mn<1
  ·rw[zT a];rfl
  rw[zF a]
  by_cases b:mx<mn
  ·rw[zT b];rfl
  rw[zF b,zT (by omega)];rfl
 rw[zF (by omega),zF (by omega),zF (by omega)]
 simp only[zD]
 by_cases f1:f=1
 ·rw[zT f1]
  simp only[zC,Bool.not_true,zD]
  by_cases e:mn=mx
  ·rw[zT e,if_neg (by omega)]
   by_cases e6:c=6
   ·rw[zT e6,if_pos (by omega)];rfl
   ·rw[zF e6,if_neg (by omega)];rfl
  ·rw[zF e,if_pos (by omega)];rfl
 ·rw[zF f1]
  simp only[zD,Bool.not_false,zC]
  by_cases f2:f=2
  ·subst f2
   rw[BZ,zf]
   by_cases h:99<mx
   ·rw[zT h,if_pos (by omega)];rfl
   ·rw[zF h,if_neg (by omega),if_neg (by omega)];rfl
  ·have f3:f=3:=by omega
   subst f3
   rw[B3,zf,zF (by omega),if_neg (by omega),if_neg (by omega)];rfl
theorem rK(s:Spec):ky s=some (bK s):=by
 obtain⟨no,c,f,mn,mx,u⟩:=s
 unfold ky J8 bK
 simp only
 by_cases h1:no<2\/128<no
 ·rw[if_pos h1]
  rcases h1 with h|h
  ·rw[zT h];rfl
  ·rw[zT h];cases decide (no<2)<;>rfl
 rw[if_neg h1,zF (by omega),zF (by omega)]
 by_cases h2:c<1\/6<c
 ·rw[if_pos h2]
  rcases h2 with h|h
  ·rw[zT h];rfl
  ·rw[zT h];cases decide (c<1)<;>rfl
 rw[if_neg h2,zF (by omega),zF (by omega)]
 by_cases h3:f<1\/3<f
 ·rw[if_pos h3]
  rcases h3 with h|h
  ·rw[zT h];rfl
  ·rw[zT h];cases decide (f<1)<;>rfl
 rw[if_neg h3,zF (by omega),zF (by omega)]
 simp only[zD]
 by_cases f1:f=1
 ·rw[zT f1,zF (by omega:¬f=2)]
  simp only[zC,zD]
  by_cases a:mn<1
  ·rw[zT a,if_pos (by omega)];rfl
  rw[zF a]
  by_cases b:mx<mn
  ·rw[zT b,if_pos (by omega)];rfl
  rw[zF b]
  by_cases d:999<mx
  ·rw[zT d,if_pos (by omega)];rfl
  rw[zF d]
  by_cases e:mn=mx
  ·rw[zT e,if_neg (by omega)]
   by_cases e6:c=6
   ·rw[zT e6,if_pos (by omega)];rfl
   ·rw[zF e6,if_neg (by omega)];rfl
  ·rw[zF e,if_pos (by omega)];rfl
 ·rw[zF f1]
  simp only[zD]
  by_cases f2:f=2
  ·rw[zT f2]
   simp only[zC]
   by_cases a:mn<1
   ·rw[zT a,if_pos (by omega)];rfl
   rw[zF a]
   by_cases b:mx<mn
   ·rw[zT b,if_pos (by omega)];rfl
   rw[zF b]
   by_cases d:99<mx
   ·rw[zT d,if_pos (by omega)];rfl
   rw[zF d,if_neg (by omega),if_neg (by omega)];rfl
  ·rw[zF f2]
   simp only[zD]
   by_cases a:mn<1
   ·rw[zT a,if_pos (by omega)];rfl
   rw[zF a]
   by_cases b:mx<mn
   ·rw[zT b,if_pos (by omega)];rfl
   rw[zF b]
   by_cases d:999<mx
   ·rw[zT d,if_pos (by omega)];rfl
   rw[zF d,if_neg (by omega),if_neg (by omega)];rfl
def fH:List Spec->Int->Int->Int×Int
 | [],_,_=>(0,0)
 |x::r,i,last=>if bK x≠0 then(bK x,i) else if x.1<=last then(11,i) else fH r (i+1) x.1
def gN(s:ze):Int×Int:=
 if¬(s.1=1\/s.1=2) then(1,-1) else if s.2.1<0\/9<s.2.1 then(7,-1) else fH s.2.2.1 0 0
theorem FM{x:Spec}(h:bK x=0):2<=x.1/\x.1<=128:=by
 unfold bK at h
 split at h
 ·cases h
 ·omega
def O2(e:Sum (Int×Int) Unit):Option (Int×Int):=Sum.elim (fun we=>some (we.1,we.2)) (fun _=>some (0,0)) e
theorem zx2(l:List Spec):∀(i:Int) (last:Int),O2 (if(fH l i last).1=0 then .inr () else .inl (fH l i last))=some (fH l i last):=by
 intro i last
 by_cases h:(fH l i last).1=0
 ·rw[if_pos h]
  have:fH l i last=(0,0):=by
   induction l generalizing i last with
   |nil=>rfl
   |cons x r ih=>
    unfold fH at h⊢
    split
    ·rename_i h1;rw[if_pos h1] at h;exact absurd h h1
    ·rename_i h1
     rw[if_neg h1] at h
     split
     ·rename_i h2;rw[if_pos h2] at h;cases h
     ·rename_i h2;rw[if_neg h2] at h;exact ih _ _ h
  rw[this];rfl
 ·rw[if_neg h];rfl
theorem R4(s:ze)(hl:s.2.2.1.length<=maxLen):ud ah 0 0 s=some (if(fH s.2.2.1 0 0).1=0 then .inr () else .inl (fH s.2.2.1 0 0)):=by
 have h:=np cK s.2.2.1 hl (fun i x (last:Int) K=>if bK x≠0 then some (.inl (bK x,i)) else if x.1<=last then some (.inl (11,i)) else K x.1) (fun _=>some (.inr ())) (fun k i last=>ud k last i s)
  (fun k i last h0 h1=>by
    rw[ud,HH,zT h1]
    simp only[zC,zj h0 h1,rK,zf]
    by_cases hc:bK (s.2.2.1.getD i.toNat cK)=0
    ·rw[zT hc,if_neg (fun h=>h hc)]
     simp only[Bool.not_true,zD]
     by_cases hn:(s.2.2.1.getD i.toNat cK).1<=last
     ·rw[zT hn,if_pos hn];rfl
     ·rw[zF hn,if_neg hn];rfl
    ·rw[zF hc,if_pos hc];rfl)
  (fun k last=>by rw[ud,HH,zF (by omega)];rfl) 0
 rw[h]
 clear h hl
 generalize s.2.2.1=l
 suffices∀(i last:Int),cg (fun i (x:Spec) (last:Int) K=>if bK x≠0 then some (Sum.inl (bK x,i)) else if x.1<=last then some (.inl (11,i)) else K x.1) (fun _=>some (.inr ())) l i last=some (if(fH l i last).1=0 then(.inr ():Sum (Int×Int) Unit) else .inl (fH l i last)) from this 0 0
 induction l with
 |nil=>intro i last;rfl
 |cons x r ih=>
  intro i last
  rw[cg,fH]
  by_cases hc:bK x≠0
  ·rw[if_pos hc,if_pos hc,if_neg hc]
  ·rw[if_neg hc,if_neg hc]
   by_cases hn:x.1<=last
   ·rw[if_pos hn,if_pos hn];rfl
   ·rw[if_neg hn,if_neg hn];exact ih _ _
theorem SE(s:ze)(hl:s.2.2.1.length<=maxLen):pf s=some (gN s):=by
 unfold pf Br gN
 have hx:=zx2 s.2.2.1 0 0
 have qu:(ud ah 0 0 s).bind (fun e=>Sum.elim (fun(we:Int×Int)=>Ka we.1 we.2 fun a0 a1=>some (a0,a1)) (fun(we:Unit)=>Kb fun a0 a1=>some (a0,a1)) e)=some (fH s.2.2.1 0 0):=by
  rw[R4 s hl,zf];exact hx
 dsimp only
 rw[qu]
 by_cases h1:s.1=1
 ·rw[zT h1,if_neg (by omega)]
  by_cases h2:s.2.1<0
  ·rw[zT h2,if_pos (.inl h2)];rfl
  ·rw[zF h2]
   by_cases h3:9<s.2.1
   ·rw[zT h3,if_pos (.inr h3)];rfl
   ·rw[zF h3,if_neg (by omega)];rfl
 ·rw[zF h1]
  by_cases h0:s.1=2
  ·rw[zT h0,if_neg (by omega)]
   by_cases h2:s.2.1<0
   ·rw[zT h2,if_pos (.inl h2)];rfl
   ·rw[zF h2]
    by_cases h3:9<s.2.1
    ·rw[zT h3,if_pos (.inr h3)];rfl
    ·rw[zF h3,if_neg (by omega)];rfl
  ·rw[zF h0,if_pos (by omega)];rfl
theorem VO{l:List Spec}{j:Nat}(h:j<l.length):l.getD ((j:Int)).toNat ((0:Int),(0:Int),(0:Int),(0:Int),(0:Int),())=l[j]:=by
 rw[Int.toNat_natCast,List.getD_eq_getElem?_getD,List.getElem?_eq_getElem h];rfl
theorem fq(s:ze)(hl:s.2.2.1.length<=9223372036854775807):∀(m j k:Nat) (last:Int),j+m=s.2.2.1.length->m<k->(j=0->last=0)->(∀h:0<j,last=(s.2.2.1.getD (j-1) cK).1)->
 wK k s.2.2.1 (s.2.2.1.length:Int) j s=some (if(fH (s.2.2.1.drop j) j last).1=0 then .inr () else .inl (fH (s.2.2.1.drop j) j last)):=by
 intro m
 induction m with
 |zero=>
  intro j k last hj hk h0 h1
  obtain⟨k,rfl⟩:∃k',k=k'+1:=⟨k-1,by omega⟩
  rw[wK,HZ,zF (by omega),List.drop_eq_nil_of_le (by omega)];rfl
 |succ m ih=>
  intro j k last hj hk h0 h1
  obtain⟨k,rfl⟩:∃k',k=k'+1:=⟨k-1,by omega⟩
  have aw:j<s.2.2.1.length:=by omega
  have P9:=ih (j+1) k (s.2.2.1[j]).1 (by omega) (by omega) (by omega) (fun _=>by
   rw[Nat.add_sub_cancel,List.getD_eq_getElem?_getD,List.getElem?_eq_getElem aw];rfl)
  rw[wK,HZ,zT (by omega),zC,zm aw,VO aw,Jp,zf,jF (by omega),List.drop_eq_getElem_cons aw]
  rw[show((j+1:Nat):Int)=(j:Int)+1 from rfl] at P9⊢
  by_cases hc:bK s.2.2.1[j]=0
  ·rw[zT hc]
   simp only[Bool.not_true,zD]
   have lX:=FM hc
   by_cases hz:j=0
   ·have kP:=h0 hz
    have e:fH (s.2.2.1[j]::s.2.2.1.drop (j+1)) j last=fH (s.2.2.1.drop (j+1)) ((j:Int)+1) (s.2.2.1[j]).1:=by
     rw[fH,if_neg (fun h=>h hc),if_neg (by omega)]
    rw[zF (by omega),zD,e]
    exact P9
   ·have kP:=h1 (by omega)
    have hi:zW zI ((j:Int)-1)=((j-1:Nat):Int):=by rw[zo (by omega) (by omega)];omega
    rw[zT (by omega),zC,hi,zm (by omega),Int.toNat_natCast]
    by_cases hn:(s.2.2.1[j]).1<=last
    ·have e:fH (s.2.2.1[j]::s.2.2.1.drop (j+1)) j last=(11,(j:Int)):=by
      rw[fH,if_neg (fun h=>h hc),if_pos hn]
     rw[e,zT (by rw[<-kP];exact hn)];rfl
    ·have e:fH (s.2.2.1[j]::s.2.2.1.drop (j+1)) j last=fH (s.2.2.1.drop (j+1)) ((j:Int)+1) (s.2.2.1[j]).1:=by
      rw[fH,if_neg (fun h=>h hc),if_neg hn]
     rw[e,zF (by rw[<-kP];exact hn)]
     exact P9
  ·have e:fH (s.2.2.1[j]::s.2.2.1.drop (j+1)) j last=(bK s.2.2.1[j],(j:Int)):=by
    rw[fH,if_pos hc]
   rw[zF hc,e,if_neg hc];rfl
theorem zk9(s:ze)(hl:s.2.2.1.length<=maxLen):kD s=some (gN s):=by
 rw[zk] at hl
 unfold kD BD gN
 have hx:=zx2 s.2.2.1 0 0
 have D8:=fq s hl s.2.2.1.length 0 ah 0 (by omega) (by rw[hM];omega) (fun _=>rfl) (fun h=>absurd h (by omega))
 rw[List.drop_zero,show((0:Nat):Int)=0 from rfl] at D8
 have qu:(wK ah s.2.2.1 (s.2.2.1.length:Int) 0 s).bind (fun e=>Sum.elim (fun(we:Int×Int)=>LP we.1 we.2 fun a0 a1=>some (a0,a1)) (fun(we:Unit)=>LQ fun a0 a1=>some (a0,a1)) e)=some (fH s.2.2.1 0 0):=by
  rw[D8,zf];exact hx
 dsimp only
 rw[qu]
 by_cases h1:s.1=1
 ·rw[zT h1,if_neg (by omega)]
  by_cases h2:s.2.1<0
  ·rw[zT h2,if_pos (.inl h2)];rfl
  ·rw[zF h2]
   by_cases h3:9<s.2.1
   ·rw[zT h3,if_pos (.inr h3)];rfl
   ·rw[zF h3,if_neg (by omega)];rfl
 ·rw[zF h1]
  by_cases h0:s.1=2
  ·rw[zT h0,if_neg (by omega)]
   by_cases h2:s.2.1<0
   ·rw[zT h2,if_pos (.inl h2)];rfl
   ·rw[zF h2]
    by_cases h3:9<s.2.1
    ·rw[zT h3,if_pos (.inr h3)];rfl
    ·rw[zF h3,if_neg (by omega)];rfl
  ·rw[zF h0,if_pos (by omega)];rfl
def eQ(l:List Spec)(no:Int):Option Spec:=l.find? fun x=>decide (x.1=no)
def dX:List Spec->Int->Int->Int
 | [],_,_=> -1
 |x::r,no,i=>if x.1=no then i else dX r no (i+1)
theorem Zh(s:ze)(no:Int)(hl:s.2.2.1.length<=maxLen):gb s no=some (match eQ s.2.2.1 no with|some x=>(x,true)|none=>(cK,false)):=by
 unfold gb LS eQ
 dsimp only
 have h:=eB cK s.2.2.1 hl (fun i x (_:Unit) K=>bif decide (x.1=no) then some (Sum.inl (true,x)) else K ()) (fun _=>some (.inr cK)) (fun k i _=>H0 k no s.2.2.1 (s.2.2.1.length:Int) i cK) (fun k i _=>rfl) ()
 rw[h,]
 clear h hl
 generalize(0:Int)=i
 generalize s.2.2.1=l
 induction l generalizing i with
 |nil=>rfl
 |cons x r ih=>
  rw[cg,List.find?_cons]
  cases hx:decide (x.1=no) with
  |true=>rfl
  |false=>exact ih (i+1)
theorem S5(l:List Spec)(no:Int):∀i:Int,0<=i->(dX l no i= -1/\eQ l no=none)\/(i<=dX l no i/\dX l no i<i+l.length/\∃x,eQ l no=some x/\l.getD (dX l no i-i).toNat cK=x):=by
 induction l with
 |nil=>intro i hi;left;exact⟨rfl,rfl⟩
 |cons x r ih=>
  intro i hi
  unfold dX eQ
  by_cases h:x.1=no
  ·right
   rw[if_pos h,List.find?_cons,zT h]
   refine⟨by omega,by simp;omega,x,rfl,by simp⟩
  ·rw[if_neg h,List.find?_cons,zF h]
   rcases ih (i+1) (by omega) with⟨h1,h2⟩|⟨h1,h2,y,h3,h4⟩
   ·left;exact⟨h1,h2⟩
   ·right
    refine⟨by omega,by simp;omega,y,h3,?_⟩
    have:(dX r no (i+1)-i).toNat=(dX r no (i+1)-(i+1)).toNat+1:=by omega
    rw[this]
    simpa using h4
theorem JD(s:ze)(no:Int)(hl:s.2.2.1.length<=maxLen):kz s no=some (dX s.2.2.1 no 0):=by
 unfold kz Ke
 dsimp only
 have h:=eB cK s.2.2.1 hl (fun i x (_:Unit) K=>bif decide (x.1=no) then some (Sum.inl i) else K ()) (fun _=>some (.inr ())) (fun k i _=>HI k no i s) (fun k i _=>rfl) ()
 rw[h]
 clear h hl
 generalize(0:Int)=i
 generalize s.2.2.1=l
 induction l generalizing i with
 |nil=>rfl
 |cons x r ih=>
  rw[cg,dX]
  by_cases hx:x.1=no
  ·rw[zT hx,if_pos hx];rfl
  ·rw[zF hx,if_neg hx];exact ih (i+1)
theorem zx9(n:Int):dv 0 0 n=false:=by unfold dv;simp
theorem Te{a b:ze}:a=b↔a.1=b.1/\a.2.1=b.2.1/\a.2.2.1=b.2.2.1:=by
 obtain⟨x,y,z,u⟩:=a
 obtain⟨x',y',z',u'⟩:=b
 simp
instance:DecidableEq ze:=fun a b=>decidable_of_iff _ Te.symm
theorem z167(s:ze)(h:s.2.2.1.length<=1000000):pg s=some s:=by
 unfold pg Kc
 rw[zT (by simp;omega)];rfl
def Bn(l:List Spec)(last:Int):Prop:=(∀x∈l,bK x=0)/\(l.Pairwise fun x y=>x.1<y.1)/\∀x∈l,last<x.1
theorem Wg(l:List Spec):∀(i last:Int),(fH l i last).1=0↔Bn l last:=by
 induction l with
 |nil=>intro i last;simp [fH,Bn]
 |cons x r ih=>
  intro i last
  unfold fH
  by_cases hc:bK x=0
  ·rw[if_neg (fun h=>h hc)]
   by_cases hn:x.1<=last
   ·rw[if_pos hn]
    constructor
    ·intro h;cases h
    ·intro⟨_,_,h3⟩;have:=h3 x (by simp);omega
   ·rw[if_neg hn,ih]
    constructor
    ·intro⟨h1,h2,h3⟩
     refine⟨fun y hy=> ?_,List.pairwise_cons.2 ⟨h3,h2⟩,fun y hy=> ?_⟩
     ·rcases List.mem_cons.1 hy with rfl|hy
      ·exact hc
      ·exact h1 y hy
     ·rcases List.mem_cons.1 hy with rfl|hy
      ·omega
      ·have:=h3 y hy;omega
    ·intro⟨h1,h2,h3⟩
     obtain⟨h4,h5⟩:=List.pairwise_cons.1 h2
     exact⟨fun y hy=>h1 y (by simp [hy]),h5,h4⟩
  ·rw[if_pos hc]
   constructor
   ·intro h;exact absurd h hc
   ·intro⟨h1,_,_⟩;exact absurd (h1 x (by simp)) hc
def gQ(s:ze):Prop:=(s.1=1\/s.1=2)/\0<=s.2.1/\s.2.1<=9/\Bn s.2.2.1 0
theorem JA(s:ze):(gN s).1=0↔gQ s:=by
 unfold gN gQ
 by_cases h1:s.1=1\/s.1=2
 ·rw[if_neg (fun h=>h h1)]
  by_cases h2:s.2.1<0\/9<s.2.1
  ·rw[if_pos h2]
   constructor
   ·intro h;cases h
   ·intro⟨_,a,b,_⟩;omega
  ·rw[if_neg h2,Wg]
   constructor
   ·intro h;exact⟨h1,by omega,by omega,h⟩
   ·intro⟨_,_,_,h⟩;exact h
 ·rw[if_pos h1]
  constructor
  ·intro h;cases h
  ·intro⟨a,_⟩;exact absurd a h1
theorem Bn.filter{l:List Spec}{last:Int}(h:Bn l last)(p:Spec->Bool):Bn (l.filter p) last:=
 ⟨fun x hx=>h.1 x (List.mem_filter.1 hx).1,h.2.1.filter p,fun x hx=>h.2.2 x (List.mem_filter.1 hx).1⟩
theorem za6(s:ze)(hl:s.2.2.1.length<=maxLen):lH s=some (decide ((gN s).1=0)):=by
 unfold lH Kf
 rw[SE s hl,zf]
abbrev bq:=ByteArray×ByteArray×Unit
def jx:bq:=(bs [],bs [],())
instance Qg (a:ByteArray) (l:List ByteArray):Decidable (a∈l):=decidable_of_iff (l.any (fun x=>decide (a=x))=true) (by
 rw[List.any_eq_true]
 exact⟨fun⟨x,hx,h⟩=>of_decide_eq_true h▸hx,fun h=>⟨a,h,zT rfl⟩⟩)
def xR(r:Int):Sum Int Unit:=if r= -1 then .inr () else .inl r
theorem zw6(j:Nat):xR (j:Int)= .inl (j:Int):=if_neg (by omega)
def dh{K:Type}(l:List K):List (K×Bool):=l.map fun k=>(k,true)
theorem JM{K:Type}[DecidableEq K](eq:K->K->Bool)(heq:∀x y,eq x y=decide (x=y))(k:K):∀l:List K,dY eq false (dh l) k=true↔k∈l
 | []=>by simp [dh,dY]
 |x::l=>by
  simp only[dh,List.map_cons,dY,heq]
  by_cases h:k=x
  ·rw[zT h,zC];exact⟨fun _=>by rw[h];exact List.mem_cons_self,fun _=>rfl⟩
  ·rw[zF h,zD]
   have:=JM eq heq k l
   simp only[dh] at this
   rw[this]
   exact⟨fun h'=>List.mem_cons_of_mem _ h',fun h'=>(List.mem_cons.1 h').resolve_left h⟩
theorem JN{K:Type}[DecidableEq K](eq:K->K->Bool)(heq:∀x y,eq x y=decide (x=y))(k:K):∀l:List K,dZ eq (dh l) k=true↔k∈l
 | []=>by simp [dh,dZ]
 |x::l=>by
  simp only[dh,List.map_cons,dZ,heq]
  by_cases h:k=x
  ·rw[zT h,zC];exact⟨fun _=>by rw[h];exact List.mem_cons_self,fun _=>rfl⟩
  ·rw[zF h,zD]
   have:=JN eq heq k l
   simp only[dh] at this
   rw[this]
   exact⟨fun h'=>List.mem_cons_of_mem _ h',fun h'=>(List.mem_cons.1 h').resolve_left h⟩
theorem zP{b:Bool}{p:Prop}(h:b=true↔p)(hp:¬p):b=false:=by cases b with
 |false=>rfl
 |true=>exact absurd (h.1 rfl) hp
theorem z7v{K:Type}(l:List K)(k:K):dh l++ [(k,true)]=dh (l++ [k]):=by simp [dh]
def gU:List ByteArray->List bq->Int->Option Int
 |_,[],_=>none
 |seen,p::r,i=>if p.1∈seen then some i else gU (seen++ [p.1]) r (i+1)
def wS(l:List bq):Int×Int:=if 256<l.length then(5,256) else match gU [] l 0 with
 |some i=>(10,i)
 |none=>(0,0)
def ti(o:Option Int):Option (Sum (Int×Int) Unit):=some (match o with
 |some i=> .inl (10,i)
 |none=> .inr ())
theorem zw1(l:List bq):∀(i:Int) (seen:List ByteArray),
 cg (fun i (x:bq) (s:List ib) K=>bif dY (eP .str) false s x.1 then some (Sum.inl ((10:Int),i)) else bif dZ (eP .str) s x.1 then none else K (s++ [(x.1,true)])) (fun _=>some (Sum.inr ())) l i (dh seen)=ti (gU seen l i):=by
 induction l with
 |nil=>intro i seen;rfl
 |cons p r ih=>
  intro i seen
  simp only[cg,gU]
  have e1:=JM (eP .str) (fun _ _=>rfl) p.1 seen
  have e2:=JN (eP .str) (fun _ _=>rfl) p.1 seen
  by_cases h:p.1∈seen
  ·rw[e1.2 h,if_pos h];rfl
  ·rw[zP e1 h,zP e2 h,if_neg h,zD,zD,z7v]
   exact ih (i+1) (seen++ [p.1])
theorem zy8(l:List bq)(h:l.length<=maxLen):Ch l=some (wS l):=by
 unfold Ch Nl wS
 dsimp only
 by_cases hl:256<l.length
 ·rw[zT (by omega),zC,if_pos hl]
 ·rw[zF (by omega),zD,if_neg hl]
  have:=eB jx l h (fun i (x:bq) (s:List ib) K=>bif dY (eP .str) false s x.1 then some (Sum.inl ((10:Int),i)) else bif dZ (eP .str) s x.1 then none else K (s++ [(x.1,true)])) (fun _=>some (Sum.inr ()))
   (fun k i s=>Ii k l (l.length:Int) i s) (fun k i s=>rfl) []
  rw[this]
  have h2:=zw1 l 0 []
  rw[show dh ([]:List ByteArray)=[] from rfl] at h2
  rw[h2]
  unfold ti
  cases gU [] l 0<;>rfl
def fC:List bq->ByteArray->Int->Int
 | [],_,_=> -1
 |p::r,f,i=>if p.1=f then i else fC r f (i+1)
theorem zjm(l:List bq)(hl:l.length<=9223372036854775807)(n:Nat)(hn:n<=l.length)(f:ByteArray):∀(m j k:Nat),j+m=n->m<k->z59 k l (n:Int) f (j:Int)=some (xR (fC ((l.take n).drop j) f j))
 |m,j,0,_,hk=>by omega
 |0,j,k+1,hj,hk=>by
  have:j=n:=by omega
  subst this
  unfold z59 HK
  rw[zF (by omega),List.drop_eq_nil_of_le (by rw[List.length_take];omega)]
  rfl
 |m+1,j,k+1,hj,hk=>by
  have aw:j<l.length:=by omega
  unfold z59 HK
  rw[zT (by omega),zC,zm aw,Int.toNat_natCast]
  have hd:(l.take n).drop j=l[j]::(l.take n).drop (j+1):=by
   rw[List.drop_eq_getElem_cons (by simp;omega)]
   congr 1
   rw[List.getElem_take]
  have hg:∀d,l.getD j d=l[j]:=fun d=>by rw[List.getD_eq_getElem?_getD,List.getElem?_eq_getElem aw];rfl
  rw[hd]
  simp only[hg,fC]
  by_cases h:l[j].1=f
  ·rw[zT h,if_pos h,zw6];rfl
  ·rw[zF h,if_neg h,zD,jF (by omega),zjm l hl n hn f m (j+1) k (by omega) (by omega)]
   rfl
theorem zx4(l:List bq)(hl:l.length<=maxLen)(n:Nat)(hn:n<=l.length)(f:ByteArray):nG l (n:Int) f=some (fC (l.take n) f 0):=by
 rw[zk] at hl
 unfold nG Kr
 dsimp only
 have:=zjm l hl n hn f n 0 ah (by omega) (by rw[hM];omega)
 rw[show((0:Nat):Int)=(0:Int) from rfl,List.drop_zero] at this
 rw[this,Option.bind_some]
 unfold xR
 by_cases h:fC (l.take n) f 0= -1
 ·rw[if_pos h,h];rfl
 ·rw[if_neg h];rfl
theorem zxb(f:ByteArray):∀(l:List bq) (i:Int),0<=i->(0<=fC l f i↔f∈l.map fun p=>p.1)
 | [],i,_=>by simp [fC]
 |p::r,i,hi=>by
  simp only[fC,List.map_cons,List.mem_cons]
  by_cases h:p.1=f
  ·rw[if_pos h];exact⟨fun _=> .inl h.symm,fun _=>hi⟩
  ·rw[if_neg h,zxb f r (i+1) (by omega)]
   exact⟨.inr,fun h'=>h'.resolve_left (fun e=>h e.symm)⟩
theorem zdw(l:List bq)(hl:l.length<=256):∀(m j k:Nat),j+m=l.length->m<k->Aa k l (j:Int)=ti (gU ((l.take j).map fun p=>p.1) (l.drop j) j)
 |m,j,0,_,hk=>by omega
 |0,j,k+1,hj,hk=>by
  unfold Aa HJ
  rw[zF (by omega),List.drop_eq_nil_of_le (by omega)]
  rfl
 |m+1,j,k+1,hj,hk=>by
  have aw:j<l.length:=by omega
  unfold Aa HJ
  have hg:∀d,l.getD j d=l[j]:=fun d=>by rw[List.getD_eq_getElem?_getD,List.getElem?_eq_getElem aw];rfl
  rw[zT (by omega),zC,zm aw,Int.toNat_natCast,hg,zx4 l (by rw[zk];omega) j (by omega),Option.bind_some,List.drop_eq_getElem_cons aw]
  simp only[gU]
  have hm:=zxb l[j].1 (l.take j) 0 (Int.le_refl _)
  by_cases h:l[j].1∈(l.take j).map fun p=>p.1
  ·rw[zT (hm.2 h),if_pos h];rfl
  ·rw[zF (fun h'=>h (hm.1 h')),if_neg h,zD,jF (by omega),zdw l hl m (j+1) k (by omega) (by omega)]
   congr 2
   rw[List.take_add_one,List.getElem?_eq_getElem aw,List.map_append]
   rfl
theorem SF(l:List bq)(h:l.length<=maxLen):pk l=some (wS l):=by
 unfold pk Km wS
 dsimp only
 by_cases hl:256<l.length
 ·rw[zT (by omega),zC,if_pos hl]
 ·rw[zF (by omega),zD,if_neg hl]
  have:=zdw l (by omega) l.length 0 ah (by omega) (by rw[hM];omega)
  rw[show((0:Nat):Int)=(0:Int) from rfl,List.take_zero,List.drop_zero] at this
  rw[this]
  unfold ti
  simp only[List.map_nil]
  cases gU [] l 0<;>rfl
def gu(l:List bq)(f:ByteArray):ByteArray×Bool:=match l.find? fun p=>decide (p.1=f) with
 |some p=>(p.2.1,true)
 |none=>(bs [],false)
theorem zxa(f:ByteArray):∀(l:List bq) (i:Int),0<=i->(fC l f i= -1/\l.find? (fun p=>decide (p.1=f))=none)\/(i<=fC l f i/\fC l f i<i+l.length/\∃p,l.find? (fun p=>decide (p.1=f))=some p/\∀d,l.getD (fC l f i-i).toNat d=p)
 | [],i,_=> .inl ⟨rfl,rfl⟩
 |p::r,i,hi=>by
  simp only[fC,List.find?_cons,List.length_cons]
  by_cases h:p.1=f
  ·rw[if_pos h,zT h]
   exact .inr ⟨Int.le_refl _,by omega,p,rfl,fun d=>by simp⟩
  ·rw[if_neg h,zF h]
   rcases zxa f r (i+1) (by omega) with⟨h1,h2⟩|⟨h1,h2,q,h3,h4⟩
   ·exact .inl ⟨h1,h2⟩
   ·refine .inr ⟨by omega,by omega,q,h3,fun d=> ?_⟩
    have:=h4 d
    rw[show(fC r f (i+1)-i).toNat=(fC r f (i+1)-(i+1)).toNat+1 by omega,List.getD_cons_succ]
    exact this
theorem SD(l:List bq)(f:ByteArray)(h:l.length<=maxLen):pj l f=some (gu l f):=by
 unfold pj Kk gu
 dsimp only
 rw[zx4 l h l.length (Nat.le_refl _),List.take_length,Option.bind_some]
 rcases zxa f l 0 (Int.le_refl _) with⟨h1,h2⟩|⟨h1,h2,p,h3,h4⟩
 ·rw[h1,h2];rfl
 ·rw[zF (by omega),zD,zj h1 (by omega),h3]
  have:=h4 ((bs []),(bs []),())
  rw[Int.sub_zero] at this
  rw[this]
def jD(l:List bq):List bq:=l.map fun p=>(p.2.1,p.1,())
theorem Wp(l:List bq):(jD l).length=l.length:=by simp [jD]
theorem zwi(l:List bq)(h:l.length<=1000000):nF l=some l:=by
 unfold nF Kn
 rw[zT (by simp;omega),zC,List.nil_append]
def hJ(c b:Int):Bool:=
 if c=1 then decide (48<=b/\b<=57)
 else if c=2 then decide (65<=b/\b<=90\/97<=b/\b<=122)
 else if c=3 then decide (48<=b/\b<=57\/65<=b/\b<=90\/97<=b/\b<=122)
 else if c=4 then decide (32<=b/\b<=126)
 else decide (c=5\/c=6)
def fX(c:Int):Int:=if c=1 then 1 else if c=2 then 2 else if c=3 then 3 else if c=4 then 7 else if c=5 then 15 else if c=6 then 15 else 0
theorem acJ:∀c:Fin 7,∀b:Fin 256,uH (c.1:Int) (b.1:Int)=some (hJ (c.1:Int) (b.1:Int)):=by decide+kernel
theorem G9:∀c:Fin 7,∀b:Fin 256,(wY (b.1:Int)).map (fun r=>decide (aU .and .i64 (fX (c.1:Int)) r=0))=some (!hJ (c.1:Int) (b.1:Int)):=by decide+kernel
theorem zwq(c:Int):(∃k:Fin 7,c=(k.1:Int))\/(c≠1/\c≠2/\c≠3/\c≠4/\c≠5/\c≠6):=by
 by_cases h:0<=c/\c<=6
 ·exact .inl ⟨⟨c.toNat,by omega⟩,by simp;omega⟩
 ·exact .inr ⟨by omega,by omega,by omega,by omega,by omega,by omega⟩
theorem nx{b:Int}(h:jH b):∃k:Fin 256,b=(k.1:Int):=by
 unfold jH at h
 exact⟨⟨b.toNat,by omega⟩,by simp;omega⟩
theorem Zj(c:Int){b:Int}(hb:jH b):uH c b=some (hJ c b):=by
 obtain⟨b,rfl⟩:=nx hb
 rcases zwq c with⟨k,rfl⟩|⟨h1,h2,h3,h4,h5,h6⟩
 ·exact acJ k b
 ·unfold uH Oh hJ
  simp only[h1,h2,h3,h4,h5,h6,decide_false,zD,if_false,or_self,Bool.cond_self]
theorem V4(c:Int){b:Int}(hb:jH b):∃r,wY b=some r/\decide (aU .and .i64 (fX c) r=0)= !hJ c b:=by
 obtain⟨b,rfl⟩:=nx hb
 rcases zwq c with⟨k,rfl⟩|⟨h1,h2,h3,h4,h5,h6⟩
 ·have:=G9 k b
  cases hc:wY (b.1:Int) with
  |none=>rw[hc] at this;cases this
  |some r=>rw[hc] at this;exact⟨r,rfl,by simpa using this⟩
 ·have:=G9 0 b
  cases hc:wY (b.1:Int) with
  |none=>rw[hc] at this;cases this
  |some r=>
   rw[hc] at this
   refine⟨r,rfl,?_⟩
   have e1:fX c=fX ((0:Fin 7).1:Int):=by unfold fX;simp [h1,h2,h3,h4,h5,h6]
   have e2:hJ c (b.1:Int)=hJ ((0:Fin 7).1:Int) (b.1:Int):=by unfold hJ;simp [h1,h2,h3,h4,h5,h6]
   rw[e1,e2]
   simpa using this
def nB(c:Int):List Int->Int->Int
 | [],_=> -1
 |b::r,i=>if hJ c b=true then nB c r (i+1) else i
theorem zjp(c:Int):∀(l:List Int) (i:Int),0<=i->(0<=nB c l i↔¬l.all (hJ c)=true)
 | [],i,_=>by simp [nB]
 |b::r,i,hi=>by
  simp only[nB,List.all_cons]
  cases h:hJ c b with
  |true=>rw[if_pos rfl,zjp c r (i+1) (by omega),Bool.true_and]
  |false=>simp [hi]
theorem zot(c:Int)(s:ByteArray)(hs:s.size<=9223372036854775807):∀(n j k:Nat),j+n=s.size->n<k->Au k s (fX c) (j:Int)=some (xR (nB c ((bl s).drop j) j))
 |n,j,0,_,hk=>by omega
 |0,j,k+1,hj,hk=>by
  unfold Au Ih
  rw[zF (by omega),List.drop_eq_nil_of_le (by rw[lr];omega)];rfl
 |n+1,j,k+1,hj,hk=>by
  have aw:j<s.size:=by omega
  have hl:j<(bl s).length:=by rw[lr];exact aw
  have hb:jH ((bl s)[j]):=zvz (List.getElem_mem hl)
  have hg:(bl s).getD j 0=(bl s)[j]:=by rw[List.getD_eq_getElem?_getD,List.getElem?_eq_getElem hl];rfl
  unfold Au Ih
  rw[zT (by omega),zC,zm aw,Int.toNat_natCast,tZ,hg,List.drop_eq_getElem_cons hl]
  obtain⟨r,h1,h2⟩:=V4 c hb
  rw[h1,Option.bind_some,h2]
  simp only[nB]
  cases h:hJ c (bl s)[j] with
  |true=>rw[if_pos rfl,Bool.not_true,zD,jF (by omega),zot c s hs n (j+1) k (by omega) (by omega)];rfl
  |false=>rw[if_neg (by simp),Bool.not_false,zC,zw6]
theorem WC(c:Int)(s:ByteArray)(h:s.size<=maxLen):Ca c s=some (nB c (bl s) 0):=by
 rw[zk] at h
 unfold Ca MX
 dsimp only
 rw[MF,Option.bind_some]
 have:=zot c s h s.size 0 ah (by omega) (by rw[hM];omega)
 rw[show((0:Nat):Int)=(0:Int) from rfl,List.drop_zero] at this
 rw[show(if c=1 then 1 else if c=2 then 2 else if c=3 then 3 else if c=4 then 7 else if c=5 then 15 else if c=6 then 15 else 0:Int)=fX c from rfl,this,Option.bind_some]
 unfold xR
 by_cases h:nB c (bl s) 0= -1
 ·rw[if_pos h,h];rfl
 ·rw[if_neg h];rfl
theorem ze7(c:Int)(s:ByteArray)(hs:s.size<=9223372036854775807):∀(n j k:Nat),j+n=s.size->n<k->AA k c s (j:Int)=some (xR (nB c ((bl s).drop j) j))
 |n,j,0,_,hk=>by omega
 |0,j,k+1,hj,hk=>by
  unfold AA Il
  rw[zF (by omega),List.drop_eq_nil_of_le (by rw[lr];omega)];rfl
 |n+1,j,k+1,hj,hk=>by
  have aw:j<s.size:=by omega
  have hl:j<(bl s).length:=by rw[lr];exact aw
  have hb:jH ((bl s)[j]):=zvz (List.getElem_mem hl)
  have hg:(bl s).getD j 0=(bl s)[j]:=by rw[List.getD_eq_getElem?_getD,List.getElem?_eq_getElem hl];rfl
  unfold AA Il
  rw[zT (by omega),zC,zm aw,Int.toNat_natCast,tZ,hg,List.drop_eq_getElem_cons hl,Zj c hb,Option.bind_some]
  simp only[nB]
  cases h:hJ c (bl s)[j] with
  |true=>rw[if_pos rfl,Bool.not_true,zD,jF (by omega),ze7 c s hs n (j+1) k (by omega) (by omega)];rfl
  |false=>rw[if_neg (by simp),Bool.not_false,zC,zw6]
theorem za1(c:Int)(s:ByteArray)(h:s.size<=maxLen):CN c s=some (nB c (bl s) 0):=by
 rw[zk] at h
 unfold CN Og
 dsimp only
 have:=ze7 c s h s.size 0 ah (by omega) (by rw[hM];omega)
 rw[show((0:Nat):Int)=(0:Int) from rfl,List.drop_zero] at this
 rw[this,Option.bind_some]
 unfold xR
 by_cases h:nB c (bl s) 0= -1
 ·rw[if_pos h,h];rfl
 ·rw[if_neg h];rfl
def ux(a b:Int):Bool:=decide (1<=a/\a<=6/\1<=b/\b<=6)&&decide (aU .andNot .i64 (fX b) (fX a)=0)
theorem Yg(a b:Int):Cc a b=some (ux a b):=by
 unfold Cc M4 ux
 rw[zka,Option.bind_some]
 by_cases ha:1<=a/\a<=6
 ·rw[zT ha,zC,zka,Option.bind_some]
  by_cases hb:1<=b/\b<=6
  ·rw[zT hb,zC,MF,Option.bind_some,MF,Option.bind_some,zT (show 1<=a/\a<=6/\1<=b/\b<=6 from⟨ha.1,ha.2,hb.1,hb.2⟩),Bool.true_and]
   rfl
  ·rw[zF hb,zD,zF (fun h=>hb h.2.2)];rfl
 ·rw[zF ha,zD,zF (fun h=>ha ⟨h.1,h.2.1⟩)];rfl
theorem Ww:∀a b:Fin 7,nD (a.1:Int) (b.1:Int)=some (ux (a.1:Int) (b.1:Int)):=by decide+kernel
theorem Om{c:Int}(h:1<=c/\c<=6):∃k:Fin 7,c=(k.1:Int):=⟨⟨c.toNat,by omega⟩,by simp;omega⟩
theorem za7(a b:Int):nD a b=some (ux a b):=by
 by_cases h:(1<=a/\a<=6)/\(1<=b/\b<=6)
 ·obtain⟨k,rfl⟩:=Om h.1
  obtain⟨m,rfl⟩:=Om h.2
  exact Ww k m
 ·unfold nD J2 ux
  rw[show decide (1<=a/\a<=6/\1<=b/\b<=6)=false from zF (fun h'=>h ⟨⟨h'.1,h'.2.1⟩,h'.2.2⟩),Bool.false_and]
  by_cases h1:a<1
  ·rw[zT h1];rfl
  ·by_cases h2:(6:Int)<a
   ·rw[zF h1,zT h2];rfl
   ·by_cases h3:b<1
    ·rw[zF h1,zF h2,zT h3];rfl
    ·have h4:(6:Int)<b:=by omega
     rw[zF h1,zF h2,zF h3,zT h4];rfl
theorem rf(s:ByteArray)(i:Nat):jH (zd s i):=by
 rw[tZ]
 exact VN (fun x hx=>zvz hx) i
theorem zx6:∀b:Fin 256,lN (b.1:Int)=some (decide (kr (b.1:Int)≠some 0)):=by decide+kernel
theorem zai:∀b:Fin 256,kr (b.1:Int)=some 0\/(kr (b.1:Int)=some 1/\decide (aU .and .i64 (b.1:Int) 31=31)=false)\/(kr (b.1:Int)=some 2/\decide (aU .and .i64 (b.1:Int) 31=31)=true):=by decide+kernel
theorem acy(x y:Nat)(hx:x<256)(hy:y<256):aU .and .i64 (((x:Int)*256)+(y:Int)) 255=(y:Int):=by
 have:((x:Int)*256+(y:Int))=((x*256+y:Nat):Int):=by omega
 rw[this,show(255:Int)=((255:Nat):Int) from rfl,aaF (by omega) (by omega)]
 congr 1
 rw[show(255:Nat)=2^8-1 from rfl,Nat.and_two_pow_sub_one_eq_mod]
 omega
theorem RQ(x y:Nat)(hx:x<256)(hy:y<256):Int.fdiv ((x:Int)*256+(y:Int)) (2^min ((8:Int)).toNat 64)=(x:Int):=by
 have:((x:Int)*256+(y:Int))=((x*256+y:Nat):Int):=by omega
 rw[this,show(8:Int)=((8:Nat):Int) from rfl,YC _ 8 (by omega)]
 congr 1
 omega
theorem Wa(x:Fin 256)(hx:kr (x.1:Int)=some 2)(y:Fin 256):pP ((x.1:Int)*256+(y.1:Int))=some (decide (1<=(y.1:Int)/\(y.1:Int)<=127)):=by
 have hx0:x.1≠0:=fun e=>by
  have:x=0:=Fin.ext e
  subst this
  revert hx
  decide+kernel
 have xT:decide (aU .and .i64 (x.1:Int) 31=31)=true:=by
  rcases zai x with h|⟨h,_⟩|⟨_,h⟩
  ·rw[h] at hx;cases hx
  ·rw[h] at hx;cases hx
  ·exact h
 have hf:lN (x.1:Int)=some true:=by rw[zx6 x,hx];rfl
 unfold pP Md
 rw[RQ x.1 y.1 x.2 y.2,acy x.1 y.1 x.2 y.2,zF (by have:=x.2;have:=y.2;omega),zD,zT (by have:=x.2;have:=y.2;omega),zC,hf,Option.bind_some,zC,xT,zC]
 by_cases h1:(1:Int)<=(y.1:Int)
 ·rw[zT h1,zC]
  congr 1
  exact decide_eq_decide.2 ⟨fun h=>⟨h1,h⟩,fun h=>h.2⟩
 ·rw[zF h1,zD]
  congr 1
  exact(zF fun h=>h1 h.1).symm
theorem Wl(s:ByteArray)(hs:s.size<=9223372036854775000)(a:Int):pO s a=ku s a:=by
 unfold pO Mc ku HC
 by_cases h1:a<0
 ·rw[zT h1];rfl
 rw[zF h1,zD,zD]
 by_cases h2:(s.size:Int)<a
 ·rw[zT h2];rfl
 rw[zF h2,zD,zD]
 by_cases h3:a=(s.size:Int)
 ·rw[zT h3];rfl
 have wa:∀{R:Type} (x:Option R),zc a s.size x=x:=fun x=>zj (by omega) (by omega)
 rw[zF h3,zD,zD]
 simp only[wa]
 obtain⟨x,hx⟩:=nx (rf s a.toNat)
 obtain⟨y,hy⟩:=nx (rf s (zW zI (a+1)).toNat)
 have AY:=x.2
 have I7:=y.2
 have ob:=FE (rf s a.toNat) (rf s (zW zI (a+1)).toNat)
 rw[hx,hy] at ob
 have w1:zW zI (a+1)=a+1:=zo (by omega) (by omega)
 have w2:zW zI (x.1:Int)=(x.1:Int):=zo (by omega) (by omega)
 have w3:zW zI (y.1:Int)=(y.1:Int):=zo (by omega) (by omega)
 have w4:zW zI ((s.size:Int)-a)=(s.size:Int)-a:=zo (by omega) (by omega)
 rw[hx,hy,w2,zx6 x,Option.bind_some]
 rw[w2] at ob
 rcases zai x with h|⟨h,xT⟩|⟨h,xT⟩
 ·rw[h];rfl
 ·rw[h,Option.bind_some,xT];rfl
 ·rw[h,Option.bind_some,xT,ob,Wa x h y,Option.bind_some,w1,w4,w3]
  by_cases h4:a+1=(s.size:Int)
  ·rw[zT h4,zT (by omega:(s.size:Int)-a<2)];rfl
  ·have w5:zW zI (256*(x.1:Int))=256*(x.1:Int):=zo (by omega) (by omega)
   have w6:zW zI (256*(x.1:Int)+(y.1:Int))=(x.1:Int)*256+(y.1:Int):=by rw[zo (by omega) (by omega)];omega
   rw[zF h4,zF (by omega:¬(s.size:Int)-a<2),w5,w6]
   have wb:∀{R:Type} (x:Option R),zc (a+1) s.size x=x:=fun x=>zj (by omega) (by omega)
   simp only[wb]
   by_cases h5:(y.1:Int)=0
   ·rw[zT h5,zF (by omega:¬(1<=(y.1:Int)/\(y.1:Int)<=127))];rfl
   ·by_cases h6:(127:Int)<(y.1:Int)
    ·rw[zF h5,zT h6,zF (by omega:¬(1<=(y.1:Int)/\(y.1:Int)<=127))];rfl
    ·rw[zF h5,zF h6,zT (by omega:1<=(y.1:Int)/\(y.1:Int)<=127)];rfl
def ey(b:Int):Bool:=decide (48<=b/\b<=57)
def cL(l:List Int):Bool:=l.all ey
theorem zwl(b:Int)(l:List Int):cL (b::l)=(ey b&&cL l):=rfl
theorem aaU{b:Int}(h:48<=b/\b<=57):ey b=true:=zT h
theorem zw8{b:Int}(h:¬(48<=b/\b<=57)):ey b=false:=zF h
theorem Ok{s:ByteArray}{j:Nat}(h:j<s.size):(bl s).getD j 0=((s[j]'h).toNat:Int):=by
 rw[<-tZ]
 unfold zd
 rw[dif_pos h]
theorem zw5{s:ByteArray}{j:Nat}(h:j<s.size):(bl s).drop j=((s[j]'h).toNat:Int)::(bl s).drop (j+1):=by
 have h':j<(bl s).length:=by rw[lr];exact h
 rw[List.drop_eq_getElem_cons h']
 congr 1
 have:=Ok h
 rw[List.getD_eq_getElem?_getD,List.getElem?_eq_getElem h'] at this
 exact this
theorem Sq(s:ByteArray)(pos:Nat)(h:pos<s.size)(ha:128<=(s[pos]'h).toNat):128<=(Utf8.decode s pos).1:=by
 have e:s.get! (pos+0)=s[pos]'h:=by
  show s.get! pos=_
  simp [ByteArray.get!,getElem!_pos,h]
  rfl
 unfold Utf8.decode
 simp only[e]
 rw[if_neg (by omega)]
 have I2:128<=Utf8.runeError:=by unfold Utf8.runeError;omega
 split
 ·split
  ·assumption
  ·exact I2
 ·split
  ·split
   ·rename_i hc
    simp only[Bool.and_eq_true,decide_eq_true_eq] at hc
    have:=hc.1
    simp only
    omega
   ·exact I2
  ·split
   ·split
    ·rename_i hc
     simp only[Bool.and_eq_true,decide_eq_true_eq] at hc
     have:=hc.1
     simp only
     omega
    ·exact I2
   ·exact I2
theorem Fa(s:ByteArray):∀(n j k:Nat),s.size-j<=n->j<=s.size->n<k->BO k (s,j)=some (bif cL ((bl s).drop j) then .inr () else .inl false)
 |n,j,0,_,_,hk=>by omega
 |n,j,k+1,hn,hj,hk=>by
  unfold BO NE
  dsimp only
  by_cases aw:j<s.size
  ·rw[zT aw,zC,zw5 aw,zwl]
   by_cases h1:(s[j]'aw).toNat<128
   ·rw[decode_ascii s j aw h1]
    dsimp only
    by_cases h2:((s[j]'aw).toNat:Int)<48
    ·rw[zT h2,zC,zw8 (by omega)];rfl
    ·rw[zF h2,zD]
     by_cases h3:(57:Int)<((s[j]'aw).toNat:Int)
     ·rw[zT h3,zC,zw8 (by omega)];rfl
     ·obtain⟨n,rfl⟩:∃n',n=n'+1:=⟨n-1,by omega⟩
      rw[zF h3,zD,aaU (by omega),Bool.true_and,Fa s n (j+1) k (by omega) (by omega) (by omega)]
   ·have hd:=Sq s j aw (by omega)
    rw[zF (by omega:¬((Utf8.decode s j).1:Int)<48),zD,zT (by omega:(57:Int)<((Utf8.decode s j).1:Int)),zC,zw8 (by omega)];rfl
  ·rw[zF aw,zD,List.drop_eq_nil_of_le (by rw[lr];omega)];rfl
theorem abb(s:ByteArray)(h:s.size<=maxLen):uC s=some (cL (bl s)):=by
 unfold uC ND
 dsimp only
 rw[zk] at h
 rw[Fa s s.size 0 ah (by omega) (by omega) (by rw[hM];omega),List.drop_zero]
 cases cL (bl s)<;>rfl
theorem SI(b:Int):CJ b=some (ey b):=by
 unfold CJ Oa ey
 by_cases h:(48:Int)<=b
 ·rw[zT h,zC];congr 1;apply decide_eq_decide.2;omega
 ·rw[zF h,zD];congr 1;symm;apply zF;omega
theorem zog(s:ByteArray)(hs:s.size<=9223372036854775807):∀(n j k:Nat),s.size-j<=n->j<=s.size->n<k->BQ k s (j:Int)=some (bif cL ((bl s).drop j) then .inr () else .inl false)
 |n,j,0,_,_,hk=>by omega
 |n,j,k+1,hn,hj,hk=>by
  unfold BQ N9
  dsimp only
  by_cases aw:j<s.size
  ·rw[zT (by omega),zC,zm aw,SI,Int.toNat_natCast,tZ,Ok aw,zw5 aw,zwl]
   rw[Option.bind_some]
   cases h1:ey ((s[j]'aw).toNat:Int) with
   |false=>rfl
   |true=>
    obtain⟨n,rfl⟩:∃n',n=n'+1:=⟨n-1,by omega⟩
    simp only[Bool.not_true,zD,Bool.true_and]
    rw[jF (by omega),zog s hs n (j+1) k (by omega) (by omega) (by omega)]
  ·rw[zF (by omega),zD,List.drop_eq_nil_of_le (by rw[lr];omega)];rfl
theorem zyf(s:ByteArray)(h:s.size<=maxLen):AK s=some (cL (bl s)):=by
 unfold AK N8
 dsimp only
 rw[zk] at h
 have:=zog s h s.size 0 ah (by omega) (by omega) (by rw[hM];omega)
 rw[show((0:Nat):Int)=(0:Int) from rfl] at this
 rw[this,List.drop_zero]
 cases cL (bl s)<;>rfl
def me(l:List Int)(n:Int):Int:=l.foldl (fun n b=>10*n+(b-48)) n
theorem ET{k m:Nat}(h:k<=m):10^k<=10^m:=Nat.pow_le_pow_right (by decide) h
theorem acM(k:Nat):((10^(k+1):Nat):Int)=10*((10^k:Nat):Int):=by rw[Nat.pow_succ];omega
theorem EU:(10:Nat)^17=100000000000000000:=by decide
def qk(l:List Int):Int×Bool:=if 1<=l.length/\l.length<=18/\cL l=true then(me l 0,true) else(0,false)
theorem zow(s:ByteArray)(hs:s.size<=18)(hd:cL (bl s)=true):∀(n j k:Nat) (t:Int),s.size-j<=n->j<=s.size->n<k->0<=t->t<((10^j:Nat):Int)->BR k s t (j:Int)=some (me ((bl s).drop j) t)
 |n,j,0,t,_,_,hk,_,_=>by omega
 |n,j,k+1,t,hn,hj,hk,h0,h1=>by
  unfold BR Od
  dsimp only
  by_cases aw:j<s.size
  ·have Pu:ey ((s[j]'aw).toNat:Int)=true:=by
    have:=List.all_eq_true.1 hd ((bl s).getD j 0) (by
     rw[List.getD_eq_getElem?_getD,List.getElem?_eq_getElem (by rw[lr];exact aw)]
     exact List.getElem_mem _)
    rw[Ok aw] at this
    exact this
   simp only[ey,decide_eq_true_eq] at Pu
   rw[zT (by omega),zC,zm aw,Int.toNat_natCast,tZ,Ok aw,zw5 aw]
   have IZ:=acM j
   obtain⟨n,rfl⟩:∃n',n=n'+1:=⟨n-1,by omega⟩
   have ht:t<100000000000000000:=by
    have:=ET (show j<=17 by omega)
    rw[EU] at this
    omega
   have a1:zW zI (10*t)=10*t:=zo (by omega) (by omega)
   have a2:zW zI ((s[j]'aw).toNat:Int)=((s[j]'aw).toNat:Int):=zo (by omega) (by omega)
   have a3:zW zI (10*t+((s[j]'aw).toNat:Int))=10*t+((s[j]'aw).toNat:Int):=zo (by omega) (by omega)
   rw[a1,a2,a3,zo (by omega) (by omega),jF (by omega),zow s hs hd n (j+1) k _ (by omega) (by omega) (by omega) (by omega) (by omega)]
   simp only[me,List.foldl_cons]
   congr 2
   omega
  ·rw[zF (by omega),zD,List.drop_eq_nil_of_le (by rw[lr];omega)];rfl
theorem WD(s:ByteArray)(h:s.size<=maxLen):CL s=some (qk (bl s)):=by
 unfold CL Oc qk
 dsimp only
 rw[lr]
 by_cases h0:(s.size:Int)<1
 ·rw[zT h0,zC,if_neg (by omega)]
 ·rw[zF h0,zD]
  by_cases h1:(18:Int)<(s.size:Int)
  ·rw[zT h1,zC,if_neg (by omega)]
  ·rw[zF h1,zD,zyf s h,Option.bind_some]
   cases hd:cL (bl s) with
   |false=>rw[if_neg (by simp)];rfl
   |true=>
    rw[if_pos ⟨by omega,by omega,rfl⟩]
    simp only[Bool.not_true,zD]
    have:=zow s (by omega) hd s.size 0 ah 0 (by omega) (by omega) (by rw[hM];omega) (by omega) (by decide)
    rw[show((0:Nat):Int)=(0:Int) from rfl] at this
    rw[this,List.drop_zero,Option.bind_some]
    rfl
theorem Fi{l:List Int}(h:cL l=true):∀x∈l,jH x:=fun x hx=>by
 have:=List.all_eq_true.1 h x hx
 simp only[ey,decide_eq_true_eq] at this
 unfold jH;omega
theorem fb(x:Int)(tail:List Int):∀j,(List.replicate (j+1) (0:Int)++tail).set j x=List.replicate j 0++x::tail
 |0=>rfl
 |j+1=>by
  show(0:Int)::((List.replicate (j+1) (0:Int)++tail).set j x)=0::(List.replicate j 0++x::tail)
  rw[fb x tail j]
def xE(l:List Int):Bool:=l.all fun b=>decide (b=48)
def ff(s:ByteArray)(w:Int):ByteArray×Bool:=
 bif decide (1<=s.size/\s.size<=999/\cL (bl s)=true/\1<=w/\w<=999) then
  (bif decide ((s.size:Int)<=w) then(strOf (List.replicate (w-s.size).toNat 48++bl s),true)
   else bif xE ((bl s).take (s.size-w.toNat)) then(strOf ((bl s).drop (s.size-w.toNat)),true) else(bs [],false))
 else(bs [],false)
theorem acK{s:ByteArray}{w:Int}(h:¬(1<=s.size/\s.size<=999/\cL (bl s)=true/\1<=w/\w<=999)):ff s w=(bs [],false):=by unfold ff;rw[zF h];rfl
theorem acL{s:ByteArray}{w:Int}(h:1<=s.size/\s.size<=999/\cL (bl s)=true/\1<=w/\w<=999):ff s w=(bif decide ((s.size:Int)<=w) then(strOf (List.replicate (w-s.size).toNat 48++bl s),true)
 else bif xE ((bl s).take (s.size-w.toNat)) then(strOf ((bl s).drop (s.size-w.toNat)),true) else(bs [],false)):=by unfold ff;rw[zT h];rfl
theorem zvw(n:Int):Q4 n=some (if n<0\/65535<n then 0 else if 255<n then 3 else if 127<n then 2 else 1):=by
 unfold Q4 mC
 by_cases h1:n<0
 ·rw[zT h1,if_pos (.inl h1)];rfl
 by_cases h2:(65535:Int)<n
 ·rw[zF h1,zT h2,if_pos (.inr h2)];rfl
 rw[zF h1,zF h2,if_neg (by omega)]
 by_cases h3:(255:Int)<n
 ·rw[zT h3,if_pos h3];rfl
 by_cases h4:(127:Int)<n
 ·rw[zF h3,zT h4,if_neg h3,if_pos h4];rfl
 ·rw[zF h3,zF h4,if_neg h3,if_neg h4];rfl
theorem vC:∃k,ah=k+1+1+1:=⟨ah-3,by rw[hM]⟩
theorem Gx{y:Int}(hy:jH y):aU .or .i64 (zW zI (0*2^min (8:Int).toNat 64)) (zW zI y)=y:=by
 obtain⟨k,rfl⟩:=nx hy
 clear hy
 revert k
 decide+kernel
theorem Vi(s:ByteArray)(hs:s.size<=9223372036854775000)(a:Int):Q3 s a=kv s a:=by
 unfold Q3 ja kv HD
 by_cases h1:a<0
 ·rw[zT h1];rfl
 rw[zF h1,zD,zD]
 by_cases h2:(s.size:Int)<a
 ·rw[zT h2];rfl
 rw[zF h2,zD,zD]
 by_cases h3:a=(s.size:Int)
 ·rw[zT h3];rfl
 have wa:∀{R:Type} (x:Option R),zc a s.size x=x:=fun x=>zj (by omega) (by omega)
 rw[zF h3,zD,zD]
 simp only[wa]
 obtain⟨x,hx⟩:=nx (rf s a.toNat)
 have AY:=x.2
 have w1:zW zI (a+1)=a+1:=zo (by omega) (by omega)
 have w2:zW zI (x.1:Int)=(x.1:Int):=zo (by omega) (by omega)
 have w4:zW zI ((s.size:Int)-a)=(s.size:Int)-a:=zo (by omega) (by omega)
 have w5:zW zI ((s.size:Int)-(a+1))=(s.size:Int)-(a+1):=zo (by omega) (by omega)
 have w6:zW zI ((x.1:Int)-128)=(x.1:Int)-128:=zo (by omega) (by omega)
 have w7:zW zI ((x.1:Int)-127)=(x.1:Int)-127:=zo (by omega) (by omega)
 obtain⟨k,hk⟩:=vC
 simp only[hx,w2,w1,w4,w5,w6,w7,hk]
 by_cases h4:(127:Int)<(x.1:Int)
 ·rw[zT h4,zC,zF (by omega:¬(x.1:Int)<128),zD]
  by_cases h5:(x.1:Int)=129
  ·have wn:zW zI (0+1)=1:=rfl
   simp only[h5]
   by_cases h6:(s.size:Int)-a<2
   ·have e1:((s.size:Int)-(a+1)<129-128):=by omega
    have e2:((s.size:Int)-a<129-127):=by omega
    rw[zT e1,zT e2];rfl
   ·have e1:¬((s.size:Int)-(a+1)<129-128):=by omega
    have e2:¬((s.size:Int)-a<129-127):=by omega
    have wb:∀{R:Type} (x:Option R),zc (a+1) s.size x=x:=fun x=>zj (by omega) (by omega)
    have wc:∀{R:Type} (x:Option R),zc (zW zI (a+1+0)) s.size x=x:=fun x=>by rw[Int.add_zero,w1];exact wb x
    obtain⟨y,hy⟩:=nx (rf s (a+1).toNat)
    have I7:=y.2
    have w3:zW zI (y.1:Int)=(y.1:Int):=zo (by omega) (by omega)
    have oz:=Gx (y:=(y.1:Int)) ⟨by omega,by omega⟩
    rw[w3] at oz
    rw[zF e1,zF e2]
    have l1:dR (k+1+1+1) s (a+1) 0 (129-128) (129-128) 0=some (a+1,(y.1:Int),129-128):=by
     simp only[dR,jb]
     rw[show decide ((0:Int)<129-128)=true from rfl,zC,wc,wn,show decide ((1:Int)<129-128)=false from rfl,zD,Int.add_zero,w1,hy,w3,oz]
    simp only[wb,hy,w3]
    show(dR (k+1+1+1) s (a+1) 0 (129-128) (129-128) 0).bind _=_
    rw[l1,Option.bind_some]
    unfold jc
    dsimp only
    rw[zvw,Option.bind_some]
    by_cases h7:(y.1:Int)<128
    ·rw[if_neg (by omega),if_neg (by omega),if_neg (by omega),zT h7];rfl
    ·rw[if_neg (by omega),if_neg (by omega),if_pos (by omega),zF h7]
     have:zW zI (a+1+(129-128))=zW zI (a+2):=by congr 1;omega
     simp only[this]
     rfl
  ·by_cases h6:(x.1:Int)=130
   ·have wn:zW zI (0+1)=1:=rfl
    have wm:zW zI (1+1)=2:=rfl
    simp only[h6]
    by_cases h7:(s.size:Int)-a<3
    ·have e1:((s.size:Int)-(a+1)<130-128):=by omega
     have e2:((s.size:Int)-a<130-127):=by omega
     rw[zT e1,zT e2];rfl
    ·have e1:¬((s.size:Int)-(a+1)<130-128):=by omega
     have e2:¬((s.size:Int)-a<130-127):=by omega
     have wb:∀{R:Type} (x:Option R),zc (a+1) s.size x=x:=fun x=>zj (by omega) (by omega)
     have w8:zW zI (a+2)=a+2:=zo (by omega) (by omega)
     have w9:zW zI (a+1+1)=a+2:=by rw[zo (by omega) (by omega)];omega
     have wd:∀{R:Type} (x:Option R),zc (a+2) s.size x=x:=fun x=>zj (by omega) (by omega)
     obtain⟨y,hy⟩:=nx (rf s (a+1).toNat)
     obtain⟨z,hz⟩:=nx (rf s (a+2).toNat)
     have I7:=y.2
     have P7:=z.2
     have w3:zW zI (y.1:Int)=(y.1:Int):=zo (by omega) (by omega)
     have E9:zW zI (z.1:Int)=(z.1:Int):=zo (by omega) (by omega)
     have oz:=Gx (y:=(y.1:Int)) ⟨by omega,by omega⟩
     have ob:=FE (x:=(y.1:Int)) (y:=(z.1:Int)) ⟨by omega,by omega⟩ ⟨by omega,by omega⟩
     rw[w3] at oz
     rw[w3,E9] at ob
     rw[zF e1,zF e2]
     have l1:dR (k+1+1+1) s (a+1) 0 (130-128) (130-128) 0=some (a+1,(y.1:Int)*256+(z.1:Int),130-128):=by
      simp only[dR,jb]
      rw[show decide ((0:Int)<130-128)=true from rfl,zC,wn,wm,show decide ((1:Int)<130-128)=true from rfl,zC,show decide ((2:Int)<130-128)=false from rfl,zD,Int.add_zero,w1,wb,w9,wd,hy,hz,w3,E9,oz,ob]
     have RX:zW zI (256*(y.1:Int))=256*(y.1:Int):=zo (by omega) (by omega)
     have RY:zW zI (256*(y.1:Int)+(z.1:Int))=(y.1:Int)*256+(z.1:Int):=by rw[zo (by omega) (by omega)];omega
     simp only[wb,w8,wd,hy,hz,w3,E9,RX,RY]
     show(dR (k+1+1+1) s (a+1) 0 (130-128) (130-128) 0).bind _=_
     rw[l1,Option.bind_some]
     unfold jc
     dsimp only
     rw[zvw,Option.bind_some]
     by_cases h8:(y.1:Int)=0
     ·rw[if_neg (by omega),if_neg (by omega),zT h8]
      by_cases h9:(127:Int)<(y.1:Int)*256+(z.1:Int)
      ·rw[if_pos h9];rfl
      ·rw[if_neg h9];rfl
     ·rw[if_neg (by omega),if_pos (by omega),zF h8]
      have:zW zI (a+1+(130-128))=zW zI (a+3):=by congr 1;omega
      simp only[this]
      rfl
   ·rw[zF h5,zF h6]
    by_cases h7:(x.1:Int)=128
    ·rw[zT h7];rfl
    ·rw[zF h7,zT (by omega:(130:Int)<(x.1:Int))];rfl
 ·rw[zF h4,zD,zT (by omega:(x.1:Int)<128),zC,zF (by omega:¬(s.size:Int)-(a+1)<0),zD]
  have l1:dR (k+1+1+1) s (a+1) (x.1:Int) 0 0 0=some (a+1,(x.1:Int),0):=by
   simp only[dR,jb]
   rw[show decide ((0:Int)<0)=false from rfl,zD]
  show(dR (k+1+1+1) s (a+1) (x.1:Int) 0 0 0).bind _=_
  rw[l1,Option.bind_some]
  unfold jc
  dsimp only
  rw[zvw,Option.bind_some,if_neg (by omega),if_neg (by omega),if_neg (by omega),Int.add_zero,w1]
  rfl
abbrev bP:=Int×ByteArray×Unit
theorem zox(l:List bP)(hl:l.length<=9223372036854775807)(t:Int):∀(m j k:Nat),j+m=l.length->m<k->zZ k l (l.length:Int) t (j:Int)=some (if t∈(l.drop j).map (fun v=>v.1) then .inl true else .inr ())
 |m,j,0,_,hk=>by omega
 |0,j,k+1,hj,hk=>by
  unfold zZ HG
  rw[zF (by omega),List.drop_eq_nil_of_le (by omega)];rfl
 |m+1,j,k+1,hj,hk=>by
  have aw:j<l.length:=by omega
  have hg:∀d,l.getD j d=l[j]:=fun d=>by rw[List.getD_eq_getElem?_getD,List.getElem?_eq_getElem aw];rfl
  unfold zZ HG
  rw[zT (by omega),zC,zm aw,Int.toNat_natCast,hg,List.drop_eq_getElem_cons aw,List.map_cons]
  by_cases h:l[j].1=t
  ·rw[zT h,if_pos (by rw[h];exact List.mem_cons_self)];rfl
  ·rw[zF h,zD,jF (by omega)]
   dsimp only
   rw[zox l hl t m (j+1) k (by omega) (by omega)]
   by_cases h2:t∈(l.drop (j+1)).map (fun v=>v.1)
   ·rw[if_pos h2,if_pos (List.mem_cons_of_mem _ h2)]
   ·rw[if_neg h2,if_neg (fun h3=>(List.mem_cons.1 h3).elim (fun e=>h e.symm) h2)]
theorem z119(l:List bP)(hl:l.length<=maxLen)(t:Int):pd l (l.length:Int) t=some (decide (t∈l.map fun v=>v.1)):=by
 rw[zk] at hl
 unfold pd J7
 dsimp only
 have:=zox l hl t l.length 0 ah (by omega) (by rw[hM];omega)
 rw[show((0:Nat):Int)=(0:Int) from rfl,List.drop_zero] at this
 rw[this,Option.bind_some]
 by_cases h:t∈l.map fun v=>v.1
 ·rw[if_pos h,zT h];rfl
 ·rw[if_neg h,zF h];rfl
theorem FQ(b:ByteArray)(hb:b.size<=9223372036854775000):∀(k:Nat) (t5:List bP) (t7:Int),t5.length<=5864062014805->BE k b t5 t7 (dh (t5.map fun v=>v.1))=wI k b t5 t7
 |0,_,_,_=>rfl
 |k+1,t5,t7,hl=>by
  unfold BE Mg wI HF
  rw[Wl b hb]
  generalize decide (t7<(b.size:Int))=c0
  cases c0 with
  |false=>rfl
  |true=>
   simp only[zC]
   cases ku b t7 with
   |none=>rfl
   |some r1=>
    simp only[Option.bind_some]
    generalize(!decide (r1.2.2=0))=c1
    cases c1 with
    |true=>rfl
    |false=>
     simp only[zD]
     rw[Vi b hb]
     cases kv b r1.2.1 with
     |none=>rfl
     |some r2=>
      simp only[Option.bind_some]
      generalize(!decide (r2.2.2=0))=c2
      cases c2 with
      |true=>rfl
      |false=>
       simp only[zD]
       generalize decide (zW zI ((b.size:Int)-r2.2.1)<r2.1)=c3
       cases c3 with
       |true=>rfl
       |false=>
        simp only[zD]
        rw[z119 t5 (by rw[zk];omega),Option.bind_some]
        have e1:=JM (eP (.int .i64)) (fun _ _=>rfl) r1.1 (t5.map fun v=>v.1)
        have e2:=JN (eP (.int .i64)) (fun _ _=>rfl) r1.1 (t5.map fun v=>v.1)
        by_cases hm:r1.1∈t5.map fun v=>v.1
        ·rw[e1.2 hm,zT hm];rfl
        ·rw[zP e1 hm,zP e2 hm,zF hm]
         simp only[zD]
         rw[z7v]
         have hs:(t5.map fun v=>v.1)++ [r1.1]=(t5++ [((r1.1,(b.extract r2.2.1.toNat (zW zI (r2.2.1+r2.1)).toNat),()):bP)]).map fun v=>v.1:=by simp
         rw[hs]
         by_cases hn:(t5.length+1)*24<=140737488355328
         ·rw[FQ b hb k _ _ (by simp;omega)]
         ·have:decide ((t5.length+(List.length ([(r1.1,(b.extract r2.2.1.toNat (zW zI (r2.2.1+r2.1)).toNat),())]:List bP)))*24<=140737488355328)=false:=zF (by simp;omega)
          simp only[this,zD]
theorem Wo(b:ByteArray)(hb:b.size<=9223372036854775000):pQ b=kx b:=by
 unfold pQ Mf kx HE
 dsimp only
 have:=FQ b hb ah [] 0 (by simp)
 rw[show dh (([]:List bP).map fun v=>v.1)=[] from rfl] at this
 rw[this]
 rfl
theorem Yf(s:Spec)(x:ByteArray)(hx:x.size<=9223372036854775000):cn s x=eK s x:=by
 unfold cn L3 eK Bp
 rw[Jp,rK,WC _ _ (by rw[zk];omega),za1 _ _ (by rw[zk];omega),Wo x hx]
theorem z124(a b:Spec):jM a b=iO a b:=by
 unfold jM L4 iO Bq sm L5
 rw[Jp,rK,Jp,rK,Yg,za7]
 simp only[Option.bind_some]
 by_cases h1:bK a=0
 ·by_cases h2:bK b=0
  ·simp only[h1,h2,decide_true,zC,Bool.not_true,zD]
   by_cases h3:a.2.2.2.1<=b.2.2.2.1
   ·rw[zT h3,zF (by omega:¬b.2.2.2.1<a.2.2.2.1)]
    by_cases h4:b.2.2.2.2.1<=a.2.2.2.2.1
    ·rw[zT h4,zF (by omega:¬a.2.2.2.2.1<b.2.2.2.2.1)]
     simp only[zC,zD]
     by_cases h5:a.2.1=5
     ·simp [h5]
     ·by_cases h6:a.2.1=6
      ·simp [h6]
      ·by_cases h7:b.2.1=6
       ·simp [h5,h6,h7]
       ·simp [h5,h6,h7]
    ·rw[zF h4,zT (by omega:a.2.2.2.2.1<b.2.2.2.2.1)];rfl
   ·rw[zF h3,zT (by omega:b.2.2.2.1<a.2.2.2.1)];rfl
  ·simp [h1,h2]
 ·simp [h1]
theorem Wm(s:ByteArray)(hs:s.size<=9223372036854775000)(a:Int)(h0:0<=a)(h1:a<s.size):∃r,ku s a=some r/\(r.2.2=0->a<r.2.1/\r.2.1<=s.size):=by
 unfold ku HC
 have wa:∀{R:Type} (x:Option R),zc a s.size x=x:=fun x=>zj (by omega) (by omega)
 rw[zF (by omega:¬a<0),zF (by omega:¬(s.size:Int)<a),zF (by omega:¬a=(s.size:Int))]
 simp only[zD,wa]
 obtain⟨x,hx⟩:=nx (rf s a.toNat)
 have w1:zW zI (a+1)=a+1:=zo (by omega) (by omega)
 have w4:zW zI ((s.size:Int)-a)=(s.size:Int)-a:=zo (by omega) (by omega)
 rw[hx,w1,w4]
 rcases zai x with h|⟨h,xT⟩|⟨h,xT⟩
 ·rw[h];exact⟨_,rfl,fun h=>by cases h⟩
 ·rw[h]
  exact⟨_,rfl,fun _=>⟨by show a<a+1;omega,by show a+1<=_;omega⟩⟩
 ·rw[h,Option.bind_some]
  simp only[show decide ((2:Int)=0)=false from rfl,show decide ((2:Int)=1)=false from rfl,zD]
  by_cases h4:(s.size:Int)-a<2
  ·rw[zT h4];exact⟨_,rfl,fun h=>by cases h⟩
  ·have wb:∀{R:Type} (x:Option R),zc (a+1) s.size x=x:=fun x=>zj (by omega) (by omega)
   have w2:zW zI (a+2)=a+2:=zo (by omega) (by omega)
   rw[zF h4]
   simp only[zD,wb]
   generalize decide (zd s (a+1).toNat=0)=c1
   generalize decide ((127:Int)<zd s (a+1).toNat)=c2
   cases c1
   ·cases c2
    ·exact⟨_,rfl,fun _=>⟨by show a<zW zI (a+2);rw[w2];omega,by show zW zI (a+2)<=_;rw[w2];omega⟩⟩
    ·exact⟨_,rfl,fun h=>by cases h⟩
   ·exact⟨_,rfl,fun h=>by cases h⟩
theorem Vj(s:ByteArray)(hs:s.size<=9223372036854775000)(a:Int)(h0:0<=a)(h1:a<=s.size):∃r,kv s a=some r/\(r.2.2=0->a<r.2.1/\r.2.1<=s.size/\0<=r.1/\r.1<=65535):=by
 unfold kv HD
 rw[zF (by omega:¬a<0),zF (by omega:¬(s.size:Int)<a)]
 simp only[zD]
 by_cases he:a=(s.size:Int)
 ·rw[zT he];exact⟨_,rfl,fun h=>by cases h⟩
 have wa:∀{R:Type} (x:Option R),zc a s.size x=x:=fun x=>zj (by omega) (by omega)
 rw[zF he]
 simp only[zD,wa]
 obtain⟨x,hx⟩:=nx (rf s a.toNat)
 have AY:=x.2
 have w1:zW zI (a+1)=a+1:=zo (by omega) (by omega)
 have w2:zW zI (x.1:Int)=(x.1:Int):=zo (by omega) (by omega)
 have w4:zW zI ((s.size:Int)-a)=(s.size:Int)-a:=zo (by omega) (by omega)
 have w7:zW zI ((x.1:Int)-127)=(x.1:Int)-127:=zo (by omega) (by omega)
 simp only[hx,w2,w1,w4,w7]
 by_cases h4:(x.1:Int)<128
 ·rw[zT h4]
  exact⟨_,rfl,fun _=>⟨by show a<a+1;omega,by show a+1<=_;omega,by show(0:Int)<=(x.1:Int);omega,by show(x.1:Int)<=65535;omega⟩⟩
 rw[zF h4]
 have O8:∀i,jH (zd s i):=rf s
 by_cases h5:(x.1:Int)=129
 ·have wb:(s.size:Int)-a<(x.1:Int)-127\/∀{R:Type} (x:Option R),zc (a+1) s.size x=x:=by
   by_cases h:(s.size:Int)-a<(x.1:Int)-127
   ·exact .inl h
   ·exact .inr fun x=>zj (by omega) (by omega)
  rw[zT h5]
  simp only[Bool.not_true,zD,zC]
  by_cases h6:(s.size:Int)-a<(x.1:Int)-127
  ·rw[zT h6];exact⟨_,rfl,fun h=>by cases h⟩
  ·have wb:∀{R:Type} (x:Option R),zc (a+1) s.size x=x:=fun x=>zj (by omega) (by omega)
   have w8:zW zI (a+2)=a+2:=zo (by omega) (by omega)
   obtain⟨y,hy⟩:=nx (O8 (a+1).toNat)
   have I7:=y.2
   have w3:zW zI (y.1:Int)=(y.1:Int):=zo (by omega) (by omega)
   rw[zF h6]
   simp only[zD,wb,hy,w3,w8]
   generalize decide ((y.1:Int)<128)=c
   cases c
   ·exact⟨_,rfl,fun _=>⟨by show a<a+2;omega,by show a+2<=_;omega,by show(0:Int)<=(y.1:Int);omega,by show(y.1:Int)<=65535;omega⟩⟩
   ·exact⟨_,rfl,fun h=>by cases h⟩
 ·rw[zF h5]
  simp only[Bool.not_false,zD,zC]
  by_cases h9:(x.1:Int)=130
  ·rw[zT h9]
   simp only[Bool.not_true,zD]
   by_cases h6:(s.size:Int)-a<(x.1:Int)-127
   ·rw[zT h6];exact⟨_,rfl,fun h=>by cases h⟩
   ·have wb:∀{R:Type} (x:Option R),zc (a+1) s.size x=x:=fun x=>zj (by omega) (by omega)
    have w8:zW zI (a+2)=a+2:=zo (by omega) (by omega)
    have w9:zW zI (a+3)=a+3:=zo (by omega) (by omega)
    have wd:∀{R:Type} (x:Option R),zc (a+2) s.size x=x:=fun x=>zj (by omega) (by omega)
    obtain⟨y,hy⟩:=nx (O8 (a+1).toNat)
    obtain⟨z,hz⟩:=nx (O8 (a+2).toNat)
    have I7:=y.2
    have P7:=z.2
    have w3:zW zI (y.1:Int)=(y.1:Int):=zo (by omega) (by omega)
    have E9:zW zI (z.1:Int)=(z.1:Int):=zo (by omega) (by omega)
    have RX:zW zI (256*(y.1:Int))=256*(y.1:Int):=zo (by omega) (by omega)
    have RY:zW zI (256*(y.1:Int)+(z.1:Int))=256*(y.1:Int)+(z.1:Int):=zo (by omega) (by omega)
    rw[zF h6]
    simp only[zD,wb,w8,wd,hy,hz,w3,E9,RX,RY,w9]
    generalize decide ((y.1:Int)=0)=c
    cases c
    ·exact⟨_,rfl,fun _=>⟨by show a<a+3;omega,by show a+3<=_;omega,by show(0:Int)<=256*(y.1:Int)+(z.1:Int);omega,by show 256*(y.1:Int)+(z.1:Int)<=65535;omega⟩⟩
    ·exact⟨_,rfl,fun h=>by cases h⟩
  ·rw[zF h9];exact⟨_,rfl,fun h=>by cases h⟩
theorem z7y(b:ByteArray)(hb:b.size<=1099511627776):∀(n:Nat) (k:Nat) (t5:List bP) (a:Int),0<=a->a<=b.size->(b.size:Int)-a<=n->n<k->t5.length+n<=2199023255552->∃r,wI k b t5 a=some r
 |n,0,_,_,_,_,_,h,_=>by omega
 |n,k+1,t5,a,h0,h1,h2,h3,h4=>by
  unfold wI HF
  by_cases aw:a<(b.size:Int)
  ·obtain⟨r1,e1,p1⟩:=Wm b (by omega) a h0 aw
   rw[zT aw,e1,Option.bind_some,zC]
   by_cases z1:r1.2.2=0
   ·obtain⟨q1,q2⟩:=p1 z1
    obtain⟨r2,e2,p2⟩:=Vj b (by omega) r1.2.1 (by omega) q2
    simp only[z1,decide_true,Bool.not_true,zD]
    rw[e2,Option.bind_some]
    by_cases z2:r2.2.2=0
    ·obtain⟨u1,u2,u3,u4⟩:=p2 z2
     simp only[z2,decide_true,Bool.not_true,zD]
     have w1:zW zI ((b.size:Int)-r2.2.1)=(b.size:Int)-r2.2.1:=zo (by omega) (by omega)
     have w2:zW zI (r2.2.1+r2.1)=r2.2.1+r2.1:=zo (by omega) (by omega)
     rw[w1,w2]
     by_cases z3:(b.size:Int)-r2.2.1<r2.1
     ·rw[zT z3];exact⟨_,rfl⟩
     ·rw[zF z3,zD,z119 t5 (by rw[zk];omega),Option.bind_some]
      generalize decide (r1.1∈t5.map fun v=>v.1)=c
      cases c with
      |true=>exact⟨_,rfl⟩
      |false=>
       rw[zD,zT (by omega:0<=r2.2.1+r2.1),zT (by omega:r2.2.1+r2.1<=(((b.size:Nat):Int))),zT (by omega:0<=r2.2.1),zT (by omega:r2.2.1<=(((r2.2.1+r2.1).toNat:Nat):Int)),zT (by simp;omega)]
       simp only[zC]
       obtain⟨n,rfl⟩:∃n',n=n'+1:=⟨n-1,by omega⟩
       exact z7y b hb n k _ _ (by omega) (by omega) (by omega) (by omega) (by simp;omega)
    ·simp only[z2,decide_false,Bool.not_false,zC];exact⟨_,rfl⟩
   ·simp only[z1,decide_false,Bool.not_false,zC];exact⟨_,rfl⟩
  ·rw[zF aw];exact⟨_,rfl⟩
theorem zk8(b:ByteArray)(hb:b.size<=1099511627776):∃r,kx b=some r:=by
 unfold kx HE
 dsimp only
 obtain⟨r,hr⟩:=z7y b hb b.size ah [] 0 (by omega) (by omega) (by omega) (by rw[hM];omega) (by simp;omega)
 rw[hr,Option.bind_some]
 cases r<;>exact⟨_,rfl⟩
@[irreducible] def cz (s:Spec) (x:ByteArray):Int:=(eK s x).getD 0
theorem Ba(s:Spec)(x:ByteArray)(hx:x.size<=1099511627776):eK s x=some (cz s x):=by
 have:∃v,eK s x=some v:=by
  unfold eK Bp
  rw[rK,Option.bind_some,za1 _ _ (by rw[zk];omega),Option.bind_some]
  obtain⟨r,hr⟩:=zk8 x hx
  rw[hr,Option.bind_some]
  generalize(!decide (bK s=0))=c1
  generalize decide ((x.size:Int)<s.2.2.2.1)=c2
  generalize decide (s.2.2.2.2.1<(x.size:Int))=c3
  generalize decide ((0:Int)<=nB s.2.1 (bl x) 0)=c4
  generalize decide (s.2.1=6)=c5
  cases c1<;>cases c2<;>cases c3<;>cases c4<;>cases c5<;>first|exact⟨_,rfl⟩|skip
  cases r with
  |inl r=>simp only[zD,zC,Sum.elim_inl];cases(!decide (r.2.1=0))<;>exact⟨_,rfl⟩
  |inr r=>simp only[zD,zC,Sum.elim_inr];cases(!decide (r.2.1=0))<;>exact⟨_,rfl⟩
 obtain⟨v,hv⟩:=this
 unfold cz
 rw[hv];rfl
theorem JG(s:Spec)(x:ByteArray)(hx:x.size<=1099511627776):cn s x=some (cz s x):=by
 rw[Yf s x (by omega),Ba s x hx]
@[irreducible] def kf (a b:Spec):Bool:=(iO a b).getD false
theorem za8(a b:Spec):iO a b=some (kf a b):=by
 have:∃v,iO a b=some v:=by
  unfold iO Bq
  rw[rK,rK,za7]
  simp only[Option.bind_some]
  generalize(!decide (bK a=0))=c1
  generalize(!decide (bK b=0))=c2
  generalize decide (b.2.2.2.1<a.2.2.2.1)=c3
  generalize decide (a.2.2.2.2.1<b.2.2.2.2.1)=c4
  generalize decide (a.2.1=5)=c5
  generalize decide (a.2.1=6)=c6
  generalize decide (b.2.1=6)=c7
  cases c1<;>cases c2<;>cases c3<;>cases c4<;>cases c5<;>cases c6<;>cases c7<;>exact⟨_,rfl⟩
 obtain⟨v,hv⟩:=this
 unfold kf
 rw[hv];rfl
theorem Va(a b:Spec):jM a b=some (kf a b):=by rw[z124,za8]
abbrev aW:=Int×Int×Int×ByteArray×List bq×Unit
def bd(s:ze)(no:Int):Spec:=(eQ s.2.2.1 no).getD cK
def bF(s:ze)(no:Int):Bool:=(eQ s.2.2.1 no).isSome
theorem JP(s:ze)(no:Int)(hl:s.2.2.1.length<=maxLen):gb s no=some (bd s no,bF s no):=by
 rw[Zh s no hl]
 unfold bd bF
 cases eQ s.2.2.1 no<;>rfl
theorem z87(s:ze)(no:Int):(dX s.2.2.1 no 0= -1/\bF s no=false/\bd s no=cK)\/(0<=dX s.2.2.1 no 0/\dX s.2.2.1 no 0<s.2.2.1.length/\bF s no=true/\s.2.2.1.getD (dX s.2.2.1 no 0).toNat cK=bd s no):=by
 unfold bF bd
 rcases S5 s.2.2.1 no 0 (Int.le_refl _) with⟨h1,h2⟩|⟨h1,h2,x,h3,h4⟩
 ·left;rw[h2];exact⟨h1,rfl,rfl⟩
 ·right;rw[h3];rw[Int.sub_zero] at h4;exact⟨h1,by omega,rfl,h4⟩
def cV(r:aW)(a b:ze):Bool:=
 (bif decide (r.1=3) then !decide (r.2.1=0) else !bF a r.2.1)||(bif decide (r.1=2) then !decide (r.2.2.1=0) else !bF b r.2.2.1)
def gM(r:aW):Bool:=(!decide (r.2.2.2.1=bs [])&& !decide (r.1=3))||(decide (0<(r.2.2.2.2.1.length:Int))&& !decide (r.1=5))
def gZ(s:Spec):Bool:=decide (s.2.1=1)&&decide (s.2.2.1=1)
def eE:List bq->Spec->Spec->Int
 | [],_,_=>0
 |p::r,x,y=>bif !decide (cz x p.1=0) then cz x p.1 else bif !decide (cz y p.2.1=0) then cz y p.2.1 else eE r x y
def Iy(l:List bq)(x y:Spec):Int:=bif(!decide ((wS l).1=0)||decide ((l.length:Int)=0)) then 15 else eE l x y
def iC(r:aW)(x y:Spec):Int:=
 bif decide (r.1=1) then(bif kf y x then 0 else 6) else bif decide (r.1=3) then cz y r.2.2.2.1 else bif decide (r.1=4) then(bif gZ x&&gZ y then 0 else 6) else bif decide (r.1=5) then Iy r.2.2.2.2.1 x y else 0
def cW(r:aW)(a b:ze):Int:=
 bif decide (r.1<1)||decide (5<r.1) then 1 else bif cV r a b then 9 else bif gM r then 3 else iC r (bd a r.2.1) (bd b r.2.2.1)
structure dH(l:List bq):Prop where
 len:l.length<=1000000
 sz:∀p∈l,p.1.size<=1099511627776/\p.2.1.size<=1099511627776
structure dq(r:aW):Prop where
 text:r.2.2.2.1.size<=1099511627776
 eC:dH r.2.2.2.2.1
theorem aaQ(r:aW)(a b:ze)(ha:a.2.2.1.length<=maxLen)(hb:b.2.2.1.length<=maxLen):pL r a b=some (bd a r.2.1,bd b r.2.2.1,bif cV r a b then 9 else 0):=by
 unfold pL LK cV
 rw[JP a _ ha,JP b _ hb]
 simp only[Option.bind_some]
 generalize decide (r.1=3)=k3
 generalize decide (r.1=2)=k2
 generalize decide (r.2.1=0)=z1
 generalize decide (r.2.2.1=0)=z2
 generalize bF a r.2.1=h1
 generalize bF b r.2.2.1=h2
 cases k3<;>cases k2<;>cases z1<;>cases z2<;>cases h1<;>cases h2<;>rfl
theorem V6(s:Spec):gR s=some (gZ s):=by
 unfold gR LL gZ
 generalize decide (s.2.1=1)=c1
 generalize decide (s.2.2.1=1)=c2
 cases c1<;>cases c2<;>rfl
def tW(v:Int):Sum Int Unit:=if v=0 then .inr () else .inl v
theorem zy2(x y:Spec):∀(l:List bq) (i:Int),(∀p∈l,p.1.size<=1099511627776/\p.2.1.size<=1099511627776)->
 cg (fun i (p:bq) (s:Unit) K=>((cn x p.1).bind fun r2=>(bif(!decide (r2=0)) then some (Sum.inl r2) else((cn y p.2.1).bind fun r3=>(bif(!decide (r3=0)) then some (Sum.inl r3) else K s))))) (fun _=>some (Sum.inr ())) l i ()=some (tW (eE l x y))
 | [],i,_=>rfl
 |p::r,i,h=>by
  obtain⟨h1,h2⟩:=h p List.mem_cons_self
  simp only[cg,eE]
  rw[JG x p.1 h1,Option.bind_some]
  by_cases z1:cz x p.1=0
  ·rw[zT z1]
   simp only[Bool.not_true,zD]
   rw[JG y p.2.1 h2,Option.bind_some]
   by_cases z2:cz y p.2.1=0
   ·rw[zT z2]
    simp only[Bool.not_true,zD]
    exact zy2 x y r (i+1) fun q hq=>h q (List.mem_cons_of_mem _ hq)
   ·rw[zF z2]
    simp only[Bool.not_false,zC,tW,if_neg z2]
  ·rw[zF z1]
   simp only[Bool.not_false,zC,tW,if_neg z1]
theorem Y6(l:List bq)(x y:Spec)(h:dH l):kC l x y=some (Iy l x y):=by
 have hl:=h.len
 unfold kC LN Iy
 dsimp only
 rw[zy8 l (by rw[zk];omega),Option.bind_some]
 cases(!decide ((wS l).1=0)) with
 |true=>rfl
 |false=>
  cases decide ((l.length:Int)=0) with
  |true=>rfl
  |false=>
   simp only[zD,Bool.or_false]
   have:=eB jx l (by rw[zk];omega) (fun i (p:bq) (s:Unit) K=>((cn x p.1).bind fun r2=>(bif(!decide (r2=0)) then some (Sum.inl r2) else((cn y p.2.1).bind fun r3=>(bif(!decide (r3=0)) then some (Sum.inl r3) else K s))))) (fun _=>some (Sum.inr ()))
    (fun k i s=>HY k l (l.length:Int) i x y) (fun k i s=>rfl) ()
   rw[this,zy2 x y l 0 h.sz,Option.bind_some]
   unfold tW
   by_cases z:eE l x y=0
   ·rw[if_pos z,z];rfl
   ·rw[if_neg z];rfl
theorem Sf(r:aW)(a b:ze)(h:dq r)(ha:a.2.2.1.length<=maxLen)(hb:b.2.2.1.length<=maxLen):lM r a b=some (cW r a b):=by
 unfold lM LJ cW iC gM
 rw[aaQ r a b ha hb]
 simp only[Option.bind_some,Va,JG _ _ h.text,V6,Y6 _ _ _ h.eC]
 generalize cV r a b=e
 generalize decide (r.1<1)=c1
 generalize decide ((5:Int)<r.1)=c2
 generalize decide (r.2.2.2.1=bs [])=t
 generalize decide ((0:Int)<(r.2.2.2.2.1.length:Int))=p
 generalize decide (r.1=1)=k1
 generalize decide (r.1=3)=k3
 generalize decide (r.1=4)=k4
 generalize decide (r.1=5)=k5
 generalize gZ (bd a r.2.1)=p1
 generalize gZ (bd b r.2.2.1)=p2
 generalize kf (bd b r.2.2.1) (bd a r.2.1)=w
 cases c1<;>cases c2<;>first|rfl|skip
 cases e<;>first|rfl|skip
 cases t<;>cases p<;>cases k3<;>cases k5<;>first|rfl|skip
 all_goals(cases k1<;>cases k4<;>cases p1<;>cases p2<;>cases w<;>rfl)
def lq(v:Int):Sum Unit Int:=if v=0 then .inl () else .inr v
theorem zpn(x y:Spec):∀(l:List bq) (i:Int),(∀p∈l,p.1.size<=1099511627776/\p.2.1.size<=1099511627776)->
 cg (fun i (p:bq) (s:Unit) K=>((eK x p.1).bind fun r2=>(bif(!decide (r2=0)) then some (Sum.inr r2) else((eK y p.2.1).bind fun r3=>(bif(!decide (r3=0)) then some (Sum.inr r3) else K s))))) (fun _=>some (Sum.inl ())) l i ()=some (lq (eE l x y))
 | [],i,_=>rfl
 |p::r,i,h=>by
  obtain⟨h1,h2⟩:=h p List.mem_cons_self
  simp only[cg,eE]
  rw[Ba x p.1 h1,Option.bind_some]
  by_cases z1:cz x p.1=0
  ·rw[zT z1]
   simp only[Bool.not_true,zD]
   rw[Ba y p.2.1 h2,Option.bind_some]
   by_cases z2:cz y p.2.1=0
   ·rw[zT z2]
    simp only[Bool.not_true,zD]
    exact zpn x y r (i+1) fun q hq=>h q (List.mem_cons_of_mem _ hq)
   ·rw[zF z2]
    simp only[Bool.not_false,zC,lq,if_neg z2]
  ·rw[zF z1]
   simp only[Bool.not_false,zC,lq,if_neg z1]
theorem R5(r:aW)(a b:ze)(h:dq r)(i k:Int)(yc:0<=i)(hi:i<a.2.2.1.length)(vK:0<=k)(hk:k<b.2.2.1.length):
 rQ ah i k 0 r a b=some (lq (eE r.2.2.2.2.1 (a.2.2.1.getD i.toNat cK) (b.2.2.1.getD k.toNat cK))):=by
 have hl:=h.eC.len
 have:=np jx r.2.2.2.2.1 (by rw[zk];omega) (fun j (p:bq) (s:Unit) K=>((eK (a.2.2.1.getD i.toNat cK) p.1).bind fun r2=>(bif(!decide (r2=0)) then some (Sum.inr r2) else((eK (b.2.2.1.getD k.toNat cK) p.2.1).bind fun r3=>(bif(!decide (r3=0)) then some (Sum.inr r3) else K s))))) (fun _=>some (Sum.inl ()))
  (fun f j s=>rQ f i k j r a b) (fun f j s h0 h1=>by
    show rQ (f+1) i k j r a b=_
    conv=>lhs;unfold rQ Hv JR JS JT
    have wi:∀{R:Type} (x:Option R),zc i a.2.2.1.length x=x:=fun x=>zj yc hi
    have wk:∀{R:Type} (x:Option R),zc k b.2.2.1.length x=x:=fun x=>zj vK hk
    have wj:∀{R:Type} (x:Option R),zc j r.2.2.2.2.1.length x=x:=fun x=>zj h0 h1
    rw[zT h1]
    simp only[zC,wi,wk,wj]
    rfl) (fun f s=>by
    show rQ (f+1) i k r.2.2.2.2.1.length r a b=_
    conv=>lhs;unfold rQ Hv
    rw[zF (by omega),zD]) ()
 rw[this]
 exact zpn _ _ _ 0 h.eC.sz
theorem SG(r:aW)(a b:ze)(h:dq r)(ha:a.2.2.1.length<=maxLen)(hb:b.2.2.1.length<=maxLen):po r a b=some (cW r a b):=by
 unfold po Bs
 have h0:∀t,zqo t r a b=bif t then some 1 else Ku r a b:=fun t=>by cases t<;>rfl
 simp only[h0]
 unfold cW
 by_cases c1:r.1<1
 ·rw[zT c1];rfl
 by_cases c2:(5:Int)<r.1
 ·rw[zF c1,zT c2];rfl
 rw[zF c1,zF c2]
 simp only[zD,Bool.or_false]
 have e2:∀i k t,wJ i k t r a b=bif t then some 9 else HL i k r a b:=fun i k t=>by cases t<;>rfl
 have e4:∀i k t,zqp i k t r a b=bif t then some 9 else Ab i k r a b:=fun i k t=>by cases t<;>rfl
 have e6:∀i k t,zqq i k t r a b=bif t then some 3 else HM i k r a b:=fun i k t=>by cases t<;>rfl
 have e9:∀t,zqr t=some (bif t then 6 else 0):=fun t=>by cases t<;>rfl
 have hi:=z87 a r.2.1
 have hk:=z87 b r.2.2.1
 have ei:decide (dX a.2.2.1 r.2.1 0<0)= !bF a r.2.1:=by
  rcases hi with⟨h1,h2,_⟩|⟨h1,_,h2,_⟩
  ·rw[h1,h2];rfl
  ·rw[h2,zF (by omega)];rfl
 have ek:decide (dX b.2.2.1 r.2.2.1 0<0)= !bF b r.2.2.1:=by
  rcases hk with⟨h1,h2,_⟩|⟨h1,_,h2,_⟩
  ·rw[h1,h2];rfl
  ·rw[h2,zF (by omega)];rfl
 unfold Ku Bu
 rw[JD a _ ha,Option.bind_some,JD b _ hb,Option.bind_some]
 generalize D5:dX a.2.2.1 r.2.1 0=i at*
 generalize hkk:dX b.2.2.1 r.2.2.1 0=k at*
 have s3:HL i k r a b=bif(bif decide (r.1=2) then !decide (r.2.2.1=0) else !bF b r.2.2.1) then some 9 else Ab i k r a b:=by
  unfold HL Bv
  simp only[e4,ek]
  generalize decide (r.1=2)=k2
  generalize decide (r.2.2.1=0)=z
  generalize bF b r.2.2.1=hh
  cases k2<;>cases z<;>cases hh<;>rfl
 have s1:(bif decide (r.1=3) then bif !decide (r.2.1=0) then wJ i k true r a b else bif !decide (r.1=3) then wJ i k (decide (i<0)) r a b else wJ i k false r a b
  else bif !decide (r.1=3) then wJ i k (decide (i<0)) r a b else wJ i k false r a b)=bif cV r a b then some 9 else Ab i k r a b:=by
  simp only[e2,s3,ei]
  unfold cV
  generalize decide (r.1=3)=k3
  generalize decide (r.2.1=0)=z
  generalize bF a r.2.1=hh
  generalize(bif decide (r.1=2) then !decide (r.2.2.1=0) else !bF b r.2.2.1)=w
  cases k3<;>cases z<;>cases hh<;>cases w<;>rfl
 have s5:Ab i k r a b=bif gM r then some 3 else HM i k r a b:=by
  unfold Ab Bw gM
  simp only[e6]
  generalize decide (r.2.2.2.1=bs [])=t
  generalize decide ((0:Int)<(r.2.2.2.2.1.length:Int))=p
  generalize decide (r.1=3)=k3
  generalize decide (r.1=5)=k5
  cases t<;>cases p<;>cases k3<;>cases k5<;>rfl
 refine Eq.trans s1 ?_
 cases hE:cV r a b with
 |true=>rfl
 |false=>
  rw[zD,zD,s5]
  cases gM r with
  |true=>rfl
  |false=>
   rw[zD,zD]
   unfold HM Bz iC
   have g1:r.1=1\/r.1=4\/r.1=5->bF a r.2.1=true:=fun hr=>by
    unfold cV at hE
    rw[zF (by omega:¬r.1=3)] at hE
    cases hh:bF a r.2.1 with
    |true=>rfl
    |false=>rw[hh] at hE;simp at hE
   have g2:r.1≠2->bF b r.2.2.1=true:=fun hr=>by
    unfold cV at hE
    rw[zF hr] at hE
    cases hh:bF b r.2.2.1 with
    |true=>rfl
    |false=>rw[hh] at hE;simp at hE
   have hA:bF a r.2.1=true->0<=i/\i<a.2.2.1.length/\a.2.2.1.getD i.toNat cK=bd a r.2.1:=fun hh=>by
    rcases hi with⟨_,h2,_⟩|⟨h1,h2,_,h3⟩
    ·rw[h2] at hh;cases hh
    ·exact⟨h1,h2,h3⟩
   have hB:bF b r.2.2.1=true->0<=k/\k<b.2.2.1.length/\b.2.2.1.getD k.toNat cK=bd b r.2.2.1:=fun hh=>by
    rcases hk with⟨_,h2,_⟩|⟨h1,h2,_,h3⟩
    ·rw[h2] at hh;cases hh
    ·exact⟨h1,h2,h3⟩
   by_cases k1:r.1=1
   ·obtain⟨a1,a2,a3⟩:=hA (g1 (.inl k1))
    obtain⟨b1,b2,b3⟩:=hB (g2 (by omega))
    rw[zT k1,zC,zC,zj b1 b2,zj a1 a2,a3,b3,za8,Option.bind_some]
    cases kf (bd b r.2.2.1) (bd a r.2.1)<;>rfl
   rw[zF k1,zD,zD]
   by_cases k3:r.1=3
   ·obtain⟨b1,b2,b3⟩:=hB (g2 (by omega))
    rw[zT k3,zC,zC,zj b1 b2,b3,Ba _ _ h.text];rfl
   rw[zF k3,zD,zD]
   by_cases k4:r.1=4
   ·obtain⟨a1,a2,a3⟩:=hA (g1 (.inr (.inl k4)))
    obtain⟨b1,b2,b3⟩:=hB (g2 (by omega))
    rw[zT k4,zC,zC,zj a1 a2,zj b1 b2]
    simp only[a3,b3,e9]
    unfold gZ
    generalize decide ((bd a r.2.1).2.1=1)=d1
    generalize decide ((bd a r.2.1).2.2.1=1)=d2
    generalize decide ((bd b r.2.2.1).2.1=1)=d3
    generalize decide ((bd b r.2.2.1).2.2.1=1)=d4
    cases d1<;>cases d2<;>cases d3<;>cases d4<;>rfl
   rw[zF k4,zD,zD]
   by_cases k5:r.1=5
   ·obtain⟨a1,a2,a3⟩:=hA (g1 (.inr (.inr k5)))
    obtain⟨b1,b2,b3⟩:=hB (g2 (by omega))
    have AL:∀t,zkb i k t r a b=bif t then some 15 else Hu i k r a b:=fun t=>by cases t<;>rfl
    have AM:Hu i k r a b=some (eE r.2.2.2.2.1 (bd a r.2.1) (bd b r.2.2.1)):=by
     unfold Hu JQ
     dsimp only
     rw[R5 r a b h i k a1 a2 b1 b2,Option.bind_some,a3,b3]
     unfold lq
     by_cases z:eE r.2.2.2.2.1 (bd a r.2.1) (bd b r.2.2.1)=0
     ·rw[if_pos z,z];rfl
     ·rw[if_neg z];rfl
    have hl:=h.eC.len
    rw[zT k5,zC,zC,SF _ (by rw[zk];omega),Option.bind_some]
    simp only[AL,AM]
    unfold Iy
    generalize(!decide ((wS r.2.2.2.2.1).1=0))=d1
    generalize decide ((r.2.2.2.2.1.length:Int)=0)=d2
    cases d1<;>cases d2<;>rfl
   ·rw[zF k5];rfl
@[irreducible] def qX (x:ByteArray):Int:=((kx x).map fun r=>Sum.elim (fun(w:au×Int×Int)=>w.2.1) (fun(w:au×Int×Int)=>w.2.1) r).getD 0
theorem zlq(s:Spec)(x:ByteArray)(hx:x.size<=1099511627776):cz s x=0↔bK s=0/\s.2.2.2.1<=(x.size:Int)/\(x.size:Int)<=s.2.2.2.2.1/\(bl x).all (hJ s.2.1)=true/\(s.2.1=6->qX x=0):=by
 have h:=Ba s x hx
 unfold eK Bp at h
 rw[rK,Option.bind_some,za1 _ _ (by rw[zk];omega),Option.bind_some] at h
 obtain⟨r,hr⟩:=zk8 x hx
 have ht:qX x=Sum.elim (fun(w:au×Int×Int)=>w.2.1) (fun(w:au×Int×Int)=>w.2.1) r:=by unfold qX;rw[hr];rfl
 rw[hr,Option.bind_some] at h
 by_cases c1:bK s=0
 ·rw[zT c1,Bool.not_true,zD] at h
  by_cases c2:(x.size:Int)<s.2.2.2.1
  ·rw[zT c2,zC] at h
   have:=Option.some.inj h
   exact⟨fun e=>by omega,fun e=>by omega⟩
  rw[zF c2,zD] at h
  by_cases c3:s.2.2.2.2.1<(x.size:Int)
  ·rw[zT c3,zC] at h
   have:=Option.some.inj h
   exact⟨fun e=>by omega,fun e=>by omega⟩
  rw[zF c3,zD] at h
  have hf:=zjp s.2.1 (bl x) 0 (Int.le_refl _)
  by_cases c4:(0:Int)<=nB s.2.1 (bl x) 0
  ·rw[zT c4,zC] at h
   have:=Option.some.inj h
   exact⟨fun e=>by omega,fun e=>absurd e.2.2.2.1 (hf.1 c4)⟩
  rw[zF c4,zD] at h
  have cI:(bl x).all (hJ s.2.1)=true:=by
   cases hq:(bl x).all (hJ s.2.1) with
   |true=>rfl
   |false=>exact absurd (hf.2 (by rw[hq];decide)) c4
  by_cases c5:s.2.1=6
  ·rw[zT c5,zC] at h
   have key:(bif(!decide (qX x=0)) then some (13:Int) else some 0)=some (cz s x):=by
    rw[<-h]
    cases r with
    |inl r=>rw[Sum.elim_inl] at ht⊢;rw[<-ht]
    |inr r=>rw[Sum.elim_inr] at ht⊢;rw[<-ht]
   by_cases c6:qX x=0
   ·rw[zT c6] at key
    have:=Option.some.inj key
    exact⟨fun _=>⟨c1,by omega,by omega,cI,fun _=>c6⟩,fun _=>this.symm⟩
   ·rw[zF c6] at key
    have:=Option.some.inj key
    exact⟨fun e=>by omega,fun e=>absurd (e.2.2.2.2 c5) c6⟩
  ·rw[zF c5,zD] at h
   have:=Option.some.inj h
   exact⟨fun _=>⟨c1,by omega,by omega,cI,fun e=>absurd e c5⟩,fun _=>this.symm⟩
 ·rw[zF c1,Bool.not_false,zC] at h
  have:=Option.some.inj h
  exact⟨fun e=>by omega,fun e=>absurd e.1 c1⟩
theorem Ze(a b:Spec):kf a b=true↔bK a=0/\bK b=0/\a.2.2.2.1<=b.2.2.2.1/\b.2.2.2.2.1<=a.2.2.2.2.1/\(a.2.1=5\/(a.2.1=6/\b.2.1=6)\/(a.2.1≠5/\a.2.1≠6/\b.2.1≠6/\ux a.2.1 b.2.1=true)):=by
 have h:=za8 a b
 unfold iO Bq at h
 rw[rK,rK,za7] at h
 simp only[Option.bind_some] at h
 by_cases c1:bK a=0
 ·rw[zT c1,Bool.not_true,zD] at h
  by_cases c2:bK b=0
  ·rw[zT c2,Bool.not_true,zD] at h
   by_cases c3:b.2.2.2.1<a.2.2.2.1
   ·rw[zT c3,zC] at h
    have:=Option.some.inj h
    exact⟨fun e=>(by rw[e] at this;cases this),fun e=>by omega⟩
   rw[zF c3,zD] at h
   by_cases c4:a.2.2.2.2.1<b.2.2.2.2.1
   ·rw[zT c4,zC] at h
    have:=Option.some.inj h
    exact⟨fun e=>(by rw[e] at this;cases this),fun e=>by omega⟩
   rw[zF c4,zD] at h
   by_cases c5:a.2.1=5
   ·rw[zT c5,zC] at h
    have:=Option.some.inj h
    exact⟨fun _=>⟨c1,c2,by omega,by omega,.inl c5⟩,fun _=>this.symm⟩
   rw[zF c5,zD] at h
   by_cases c6:a.2.1=6
   ·rw[zT c6,zC] at h
    have:=Option.some.inj h
    rw[<-this,decide_eq_true_eq]
    exact⟨fun e=>⟨c1,c2,by omega,by omega,.inr (.inl ⟨c6,by omega⟩)⟩,fun e=>by omega⟩
   rw[zF c6,zD] at h
   by_cases c7:b.2.1=6
   ·rw[zT c7,zC] at h
    have:=Option.some.inj h
    rw[<-this,decide_eq_true_eq]
    exact⟨fun e=>by omega,fun e=>by omega⟩
   rw[zF c7,zD] at h
   have:=Option.some.inj h
   rw[<-this]
   refine⟨fun e=>⟨c1,c2,by omega,by omega,.inr (.inr ⟨c5,c6,c7,e⟩)⟩,fun e=> ?_⟩
   rcases e.2.2.2.2 with e|e|e
   ·exact absurd e c5
   ·exact absurd e.1 c6
   ·exact e.2.2.2
  ·rw[zF c2,Bool.not_false,zC] at h
   have:=Option.some.inj h
   exact⟨fun e=>(by rw[e] at this;cases this),fun e=>absurd e.2.1 c2⟩
 ·rw[zF c1,Bool.not_false,zC] at h
  have:=Option.some.inj h
  exact⟨fun e=>(by rw[e] at this;cases this),fun e=>absurd e.1 c1⟩
theorem zk6{s:Spec}(h:bK s=0):(2<=s.1/\s.1<=128)/\(1<=s.2.1/\s.2.1<=6)/\(1<=s.2.2.1/\s.2.2.1<=3)/\(1<=s.2.2.2.1/\s.2.2.2.1<=s.2.2.2.2.1/\s.2.2.2.2.1<=999)/\(s.2.2.1=1->s.2.2.2.1=s.2.2.2.2.1)/\¬(s.2.2.1=1/\s.2.1=6):=by
 unfold bK at h
 split at h
 ·omega
 split at h
 ·omega
 split at h
 ·omega
 split at h
 ·omega
 split at h
 ·omega
 ·omega
theorem aa9:∀a b:Fin 7,ux (a.1:Int) (b.1:Int)=true->a.1≠5->a.1≠6->b.1≠6->(a.1=b.1\/(a.1=3/\(b.1=1\/b.1=2))\/(a.1=4/\(b.1=1\/b.1=2\/b.1=3))):=by decide+kernel
theorem Wv{a b:Int}(h:ux a b=true)(h5:a≠5)(h6:a≠6)(h7:b≠6):a=b\/(a=3/\(b=1\/b=2))\/(a=4/\(b=1\/b=2\/b=3)):=by
 have hr:1<=a/\a<=6/\1<=b/\b<=6:=by
  unfold ux at h
  rw[Bool.and_eq_true,decide_eq_true_eq] at h
  exact h.1
 obtain⟨x,rfl⟩:=Om ⟨hr.1,hr.2.1⟩
 obtain⟨y,rfl⟩:=Om ⟨hr.2.2.1,hr.2.2.2⟩
 have:=aa9 x y h (by omega) (by omega) (by omega)
 omega
theorem YJ{a b x:Int}(h:a=b\/(a=3/\(b=1\/b=2))\/(a=4/\(b=1\/b=2\/b=3)))(hx:hJ b x=true):hJ a x=true:=by
 rcases h with rfl|⟨rfl,rfl|rfl⟩|⟨rfl,rfl|rfl|rfl⟩
 ·exact hx
 all_goals
  simp [hJ] at hx⊢
  omega
theorem YI(x:Int):hJ 5 x=true:=by simp [hJ]
theorem Ts{y x:Spec}{t:ByteArray}(ht:t.size<=1099511627776)(hw:kf y x=true)(hv:cz x t=0):cz y t=0:=by
 obtain⟨w1,w2,w3,w4,w5⟩:=(Ze y x).1 hw
 obtain⟨v1,v2,v3,v4,v5⟩:=(zlq x t ht).1 hv
 refine(zlq y t ht).2 ⟨w1,by omega,by omega,?_,?_⟩
 ·rcases w5 with e|e|e
  ·rw[e,List.all_eq_true];exact fun b _=>YI b
  ·rw[e.1,<-e.2];exact v4
  ·rw[List.all_eq_true] at v4⊢
   exact fun b hb=>YJ (Wv e.2.2.2 e.1 e.2.1 e.2.2.1) (v4 b hb)
 ·intro e6
  rcases w5 with e|e|e
  ·omega
  ·exact v5 e.2
  ·exact absurd e6 e.2.1
theorem aaT:hJ 1=ey:=by funext b;simp [hJ,ey]
theorem aaE(l:List Int):l.all (hJ 1)=cL l:=by rw[aaT];rfl
theorem GD{t:ByteArray}{w:Int}(h:(ff t w).2=true):1<=w/\w<=999/\(((ff t w).1).size:Int)=w/\cL (bl (ff t w).1)=true:=by
 by_cases hc:1<=t.size/\t.size<=999/\cL (bl t)=true/\1<=w/\w<=999
 ·rw[acL hc] at h⊢
  by_cases h4:(t.size:Int)<=w
  ·rw[zT h4,zC]
   have hd:cL (List.replicate (w-t.size).toNat 48++bl t)=true:=by
    have e:cL (List.replicate (w-t.size).toNat 48++bl t)=(cL (List.replicate (w-t.size).toNat 48)&&cL (bl t)):=List.all_append ..
    have e2:cL (List.replicate (w-t.size).toNat 48)=true:=by
     rw[cL,List.all_eq_true]
     intro x hx
     rw[(List.mem_replicate.1 hx).2];rfl
    rw[e,e2,hc.2.2.1];rfl
   refine⟨hc.2.2.2.1,hc.2.2.2.2,?_,?_⟩
   ·rw[zpj,List.length_append,List.length_replicate,lr];omega
   ·rw[Fg (Fi hd)];exact hd
  ·rw[zF h4,zD] at h⊢
   cases hz:xE ((bl t).take (t.size-w.toNat)) with
   |false=>rw[hz] at h;cases h
   |true=>
    rw[zC]
    have hd:cL ((bl t).drop (t.size-w.toNat))=true:=by
     rw[cL,List.all_eq_true]
     intro x hx
     exact List.all_eq_true.1 hc.2.2.1 x (List.mem_of_mem_drop hx)
    refine⟨hc.2.2.2.1,hc.2.2.2.2,?_,?_⟩
    ·rw[zpj,List.length_drop,lr];omega
    ·rw[Fg (Fi hd)];exact hd
 ·rw[acK hc] at h;cases h
theorem Tb{s:Spec}(h:gZ s=true):s.2.1=1/\s.2.2.1=1:=by
 unfold gZ at h
 rw[Bool.and_eq_true,decide_eq_true_eq,decide_eq_true_eq] at h
 exact h
abbrev mc:bP:=(0,bs [],())
def fF(r:aW)(b:ze)(t:ByteArray):bP×Int:=
 bif decide (r.1=1) then((r.2.2.1,t,()),0) else bif decide (r.1=2) then(mc,0) else bif decide (r.1=3) then((r.2.2.1,r.2.2.2.1,()),0)
 else bif decide (r.1=4) then(bif !bF b r.2.2.1 then(mc,9) else bif !(ff t (bd b r.2.2.1).2.2.2.1).2 then(mc,5) else((r.2.2.1,(ff t (bd b r.2.2.1).2.2.2.1).1,()),0))
 else bif decide (r.1=5) then(bif !(gu r.2.2.2.2.1 t).2 then(mc,15) else((r.2.2.1,(gu r.2.2.2.2.1 t).1,()),0)) else(mc,1)
theorem Fm{s:ze}{no:Int}(h:bF s no=true):bd s no∈s.2.2.1/\(bd s no).1=no:=by
 unfold bF at h
 unfold bd
 cases hf:eQ s.2.2.1 no with
 |none=>rw[hf] at h;cases h
 |some x=>
  unfold eQ at hf
  exact⟨List.mem_of_find?_eq_some hf,by simpa using List.find?_some hf⟩
theorem zxp{s:ze}(h:gQ s){no:Int}(hh:bF s no=true):bK (bd s no)=0:=h.2.2.2.1 _ (Fm hh).1
theorem zaa{l:List bq}{t:ByteArray}(h:(gu l t).2=true):∃p∈l,p.1=t/\(gu l t).1=p.2.1:=by
 unfold gu at h⊢
 cases hf:l.find? fun p=>decide (p.1=t) with
 |none=>rw[hf] at h;cases h
 |some p=>exact⟨p,List.mem_of_find?_eq_some hf,by simpa using List.find?_some hf,rfl⟩
theorem zy5:∀{l:List bq} {x y:Spec},eE l x y=0->∀p∈l,cz x p.1=0/\cz y p.2.1=0
 | [],x,y,h,p,hp=>by cases hp
 |q::l,x,y,h,p,hp=>by
  unfold eE at h
  by_cases h1:cz x q.1=0
  ·rw[zT h1,Bool.not_true,zD] at h
   by_cases h2:cz y q.2.1=0
   ·rw[zT h2,Bool.not_true,zD] at h
    rcases List.mem_cons.1 hp with rfl|hp
    ·exact⟨h1,h2⟩
    ·exact zy5 h p hp
   ·rw[zF h2,Bool.not_false,zC] at h;exact absurd h h2
  ·rw[zF h1,Bool.not_false,zC] at h;exact absurd h h1
theorem Jz{r:aW}{a b:ze}(h:cW r a b=0):(1<=r.1/\r.1<=5)/\cV r a b=false/\gM r=false/\iC r (bd a r.2.1) (bd b r.2.2.1)=0:=by
 unfold cW at h
 by_cases c1:r.1<1
 ·rw[zT c1] at h;cases h
 by_cases c2:5<r.1
 ·rw[zT c2,Bool.or_true] at h;cases h
 rw[zF c1,zF c2,Bool.or_false,zD] at h
 cases he:cV r a b with
 |true=>rw[he] at h;cases h
 |false=>
  rw[he,zD] at h
  cases ht:gM r with
  |true=>rw[ht] at h;cases h
  |false=>rw[ht,zD] at h;exact⟨by omega,rfl,rfl,h⟩
theorem ze2{r:aW}{a b:ze}(h:cV r a b=false):(r.1=3->r.2.1=0)/\(r.1≠3->bF a r.2.1=true)/\(r.1=2->r.2.2.1=0)/\(r.1≠2->bF b r.2.2.1=true):=by
 unfold cV at h
 rw[Bool.or_eq_false_iff] at h
 obtain⟨h1,h2⟩:=h
 refine⟨fun e=> ?_,fun e=> ?_,fun e=> ?_,fun e=> ?_⟩
 ·rw[zT e,zC] at h1;simpa using h1
 ·rw[zF e,zD] at h1;simpa using h1
 ·rw[zT e,zC] at h2;simpa using h2
 ·rw[zF e,zD] at h2;simpa using h2
theorem Sm{r:aW}{a b:ze}{t:ByteArray}(ht:t.size<=1099511627776)(hr:dq r)(hc:cW r a b=0)(hb:gQ b)(hv:bF a r.2.1=true->cz (bd a r.2.1) t=0):
 ((fF r b t).2≠0->((r.1=4/\(fF r b t).2=5)\/(r.1=5/\(fF r b t).2=15))/\(fF r b t).1=mc)/\
 ((fF r b t).2=0->(r.1=2->(fF r b t).1=mc)/\(r.1≠2->(fF r b t).1.1=r.2.2.1/\bF b r.2.2.1=true/\cz (bd b r.2.2.1) (fF r b t).1.2.1=0)):=by
 obtain⟨c1,c2,c3,c4⟩:=Jz hc
 obtain⟨e1,e2,e3,e4⟩:=ze2 c2
 unfold iC at c4
 have hk:r.1=1\/r.1=2\/r.1=3\/r.1=4\/r.1=5:=by omega
 unfold fF
 rcases hk with k|k|k|k|k
 ·rw[zT k,zC] at c4⊢
  refine⟨fun h=>absurd rfl h,fun _=>⟨fun e=>by omega,fun _=>⟨rfl,e4 (by omega),?_⟩⟩⟩
  cases hw:kf (bd b r.2.2.1) (bd a r.2.1) with
  |false=>rw[hw] at c4;cases c4
  |true=>exact Ts ht hw (hv (e2 (by omega)))
 ·rw[zF (by omega:¬r.1=1),zT k,zD,zC]
  exact⟨fun h=>absurd rfl h,fun _=>⟨fun _=>rfl,fun e=>absurd k e⟩⟩
 ·rw[zF (by omega:¬r.1=1),zT k,zD,zC] at c4
  rw[zF (by omega:¬r.1=1),zF (by omega:¬r.1=2),zT k,zD,zD,zC]
  exact⟨fun h=>absurd rfl h,fun _=>⟨fun e=>by omega,fun _=>⟨rfl,e4 (by omega),c4⟩⟩⟩
 ·rw[zF (by omega:¬r.1=1),zF (by omega:¬r.1=3),zT k,zD,zD,zC] at c4
  rw[zF (by omega:¬r.1=1),zF (by omega:¬r.1=2),zF (by omega:¬r.1=3),zT k,zD,zD,zD,zC,e4 (by omega),Bool.not_true,zD]
  have hy:=zxp hb (e4 (by omega))
  have hpd:gZ (bd b r.2.2.1)=true:=by
   cases hp:(gZ (bd a r.2.1)&&gZ (bd b r.2.2.1)) with
   |false=>rw[hp] at c4;cases c4
   |true=>exact(Bool.and_eq_true_iff.1 hp).2
  obtain⟨y1,y2⟩:=Tb hpd
  obtain⟨_,_,_,f4,f5,_⟩:=zk6 hy
  cases hp:(ff t (bd b r.2.2.1).2.2.2.1).2 with
  |false=>exact⟨fun _=>⟨.inl ⟨k,rfl⟩,rfl⟩,fun e=>by cases e⟩
  |true=>
   obtain⟨p1,p2,p3,p4⟩:=GD hp
   rw[Bool.not_true,zD]
   refine⟨fun h=>absurd rfl h,fun _=>⟨fun e=>by omega,fun _=>⟨rfl,rfl,?_⟩⟩⟩
   have:=f5 y2
   refine(zlq _ _ (by show(ff t (bd b r.2.2.1).2.2.2.1).1.size<=1099511627776;omega)).2 ⟨hy,?_,?_,?_,fun e=>by omega⟩
   ·show _<=((ff t (bd b r.2.2.1).2.2.2.1).1.size:Int);omega
   ·show((ff t (bd b r.2.2.1).2.2.2.1).1.size:Int)<=_;omega
   ·rw[y1,aaE];exact p4
 ·rw[zF (by omega:¬r.1=1),zF (by omega:¬r.1=3),zF (by omega:¬r.1=4),zT k,zD,zD,zD,zC] at c4
  rw[zF (by omega:¬r.1=1),zF (by omega:¬r.1=2),zF (by omega:¬r.1=3),zF (by omega:¬r.1=4),zT k,zD,zD,zD,zD,zC]
  unfold Iy at c4
  cases hp:(gu r.2.2.2.2.1 t).2 with
  |false=>exact⟨fun _=>⟨.inr ⟨k,rfl⟩,rfl⟩,fun e=>by cases e⟩
  |true=>
   rw[Bool.not_true,zD]
   refine⟨fun h=>absurd rfl h,fun _=>⟨fun e=>by omega,fun _=>⟨rfl,e4 (by omega),?_⟩⟩⟩
   obtain⟨p,hm,_,hq⟩:=zaa hp
   show cz _ (gu r.2.2.2.2.1 t).1=0
   rw[hq]
   cases hz:(!decide ((wS r.2.2.2.2.1).1=0)||decide ((r.2.2.2.2.1.length:Int)=0)) with
   |true=>rw[hz] at c4;cases c4
   |false=>rw[hz,zD] at c4;exact(zy5 c4 p hm).2
end bA

set_option profiler true
set_option profiler.threshold 2000
namespace bA
open Go.IntKind renaming wrap->zW,i64->zI,u8->zU
open Go Go.Ref
end bA

set_option maxRecDepth 10000
namespace bA
open Go.IntKind renaming wrap->zW,i64->zI,u8->zU
open Go Go.Ref
def gv(m:ByteArray):Bool:=decide ((m.size:Int)=4)&&cL (bl m)
theorem Bf{m:ByteArray}:gv m=true↔m.size=4/\cL (bl m)=true:=by
 unfold gv
 rw[Bool.and_eq_true,decide_eq_true_eq]
 constructor<;>intro h<;>exact⟨by omega,h.2⟩
theorem zjz(m:ByteArray)(h:m.size<=maxLen):lL m=some (gv m):=by
 unfold lL Lo gv
 cases decide ((m.size:Int)=4) with
 |false=>rfl
 |true=>rw[zC,abb m h];rfl
theorem SN(m:ByteArray)(h:m.size<=maxLen):ph m=some (gv m):=by
 unfold ph Kj gv
 cases decide ((m.size:Int)=4) with
 |false=>rfl
 |true=>rw[zC,zyf m h];rfl
theorem BT{m:ByteArray}(h:gv m=true)(i:Nat)(hi:i<4):48<=zd m i/\zd m i<=57:=by
 obtain⟨h1,h2⟩:=Bf.1 h
 have hl:i<(bl m).length:=by rw[lr];omega
 have:=List.all_eq_true.1 h2 _ (List.getElem_mem hl)
 rw[tZ,List.getD_eq_getElem?_getD,List.getElem?_eq_getElem hl]
 exact of_decide_eq_true this
def iX(m:ByteArray):Int:=bif gv m then zd m 0-48 else 0
def lm(m:ByteArray):Bool:=gv m&&(decide (zd m 2=48)||decide (zd m 2=50))
theorem zoe(m:ByteArray)(h:m.size<=maxLen):ia m=some (iX m,gv m):=by
 unfold ia Lp iX
 rw[zjz m h,Option.bind_some]
 cases hr:gv m with
 |false=>rfl
 |true=>
  obtain⟨h1,_⟩:=Bf.1 hr
  have:=BT hr 0 (by omega)
  simp only[Bool.not_true,zD,zC]
  rw[zj (by omega) (by omega),show(0:Int).toNat=0 from rfl,E7 (by omega) (by omega),zo (by omega) (by omega)]
theorem zoc(m:ByteArray)(h:m.size<=maxLen):lK m=some (lm m):=by
 unfold lK Ln lm
 rw[zjz m h,Option.bind_some]
 cases hr:gv m with
 |false=>rfl
 |true=>
  obtain⟨h1,_⟩:=Bf.1 hr
  rw[zC,zj (by omega) (by omega),zj (by omega) (by omega),show(2:Int).toNat=2 from rfl]
  cases decide (zd m 2=48)<;>rfl
theorem zdo(m:ByteArray)(h:m.size<=maxLen):nE m=some (lm m):=by
 unfold nE Ki lm
 rw[WD m h,Option.bind_some]
 unfold qk
 by_cases h4:m.size=4
 ·cases hd:cL (bl m) with
  |false=>
   rw[if_neg (by simp)]
   have:gv m=false:=by unfold gv;rw[hd,Bool.and_false]
   rw[this];rfl
  |true=>
   have hr:gv m=true:=Bf.2 ⟨h4,hd⟩
   rw[if_pos ⟨by rw[lr];omega,by rw[lr];omega,rfl⟩,hr]
   dsimp only
   rw[zC,zT (by omega),zC,Bool.true_and]
   have hl:(bl m).length=4:=by rw[lr,h4]
   obtain⟨d0,d1,d2,d3,hb⟩:∃d0 d1 d2 d3,bl m=[d0,d1,d2,d3]:=by
    match hm:bl m,hl with
    | [d0,d1,d2,d3],_=>exact⟨d0,d1,d2,d3,rfl⟩
   have h0:=BT hr 0 (by omega)
   have h1:=BT hr 1 (by omega)
   have h2:=BT hr 2 (by omega)
   have h3:=BT hr 3 (by omega)
   rw[tZ,hb] at h0 h1 h2 h3
   rw[tZ,hb]
   simp only[List.getD_cons_zero,List.getD_cons_succ] at h0 h1 h2 h3⊢
   have hv:me [d0,d1,d2,d3] 0=1000*(d0-48)+100*(d1-48)+10*(d2-48)+(d3-48):=by
    simp only[me,List.foldl_cons,List.foldl_nil];omega
   have hq:Int.tmod (zW zI (Int.tdiv (me [d0,d1,d2,d3] 0) 10)) 10=d2-48:=by
    rw[hv,Int.tdiv_eq_ediv_of_nonneg (by omega),zo (by omega) (by omega),Int.tmod_eq_emod_of_nonneg (by omega)]
    omega
   rw[hq]
   by_cases e1:d2=48
   ·rw[zT e1,zT (by omega:d2-48=0)];rfl
   ·rw[zF e1,zF (by omega:¬d2-48=0),zD,Bool.false_or]
    congr 1
    exact decide_eq_decide.2 (by omega)
 ·have:gv m=false:=by
   unfold gv
   rw[zF (by omega),Bool.false_and]
  rw[this]
  cases(if 1<=(bl m).length/\(bl m).length<=18/\cL (bl m)=true then(me (bl m) 0,true) else((0:Int),false)).2 with
  |false=>rfl
  |true=>rw[zC,zF (by omega)];rfl
def fY(m:ByteArray)(v:Int):Bool:=gv m&&decide (zd m 0-48=v)
theorem zet(m:ByteArray)(v:Int)(h:m.size<=maxLen):nH m v=some (fY m v):=by
 unfold nH KN fY
 rw[SN m h,Option.bind_some]
 cases hr:gv m with
 |false=>rfl
 |true=>
  obtain⟨h1,_⟩:=Bf.1 hr
  have:=BT hr 0 (by omega)
  have w1:zW zI (zd m 0)=zd m 0:=zo (by omega) (by omega)
  rw[zC,zj (by omega) (by omega),show(0:Int).toNat=0 from rfl,w1,zo (by omega) (by omega)]
  rfl
def lE(p:bq)(a b:ze):Bool:=fY p.1 a.2.1&&(fY p.2.1 b.2.1&&(lm p.1==lm p.2.1))
theorem Za(p:bq)(a b:ze)(h1:p.1.size<=maxLen)(h2:p.2.1.size<=maxLen):lO p a b=some (lE p a b):=by
 unfold lO Mx lE fY
 rw[zoe _ h1,zoe _ h2,zoc _ h1,zoc _ h2]
 simp only[Option.bind_some]
 unfold iX
 cases gv p.1 with
 |false=>rfl
 |true=>
  cases gv p.2.1 with
  |false=>simp
  |true=>
   simp only[zC,Bool.true_and]
   cases decide (zd p.1 0-48=a.2.1) with
   |false=>rfl
   |true=>
    cases decide (zd p.2.1 0-48=b.2.1) with
    |false=>rfl
    |true=>rfl
abbrev eb:=ByteArray×List bP×Unit
abbrev gx:=Int×Int×Unit
abbrev Iq:gx:=(0,0,())
structure iZ(m:eb):Prop where
 vZ:m.1.size<=9223372036854775807
 len:m.2.1.length<=1000000
 A7:∀v∈m.2.1,v.2.1.size<=1099511627776
def kI(l:List bP)(no:Int):List bP:=l.filter fun v=> !decide (v.1=no)
def cA(no:Int):List bP->Int->Int
 | [],_=> -1
 |x::r,i=>if no<x.1 then i else cA no r (i+1)
theorem zjt(no:Int):∀(l:List bP) (i:Int),0<=i->(cA no l i= -1/\∀x∈l,x.1<=no)\/(i<=cA no l i/\cA no l i<i+l.length)
 | [],i,h=> .inl ⟨rfl,fun x hx=>by cases hx⟩
 |x::r,i,h=>by
  unfold cA
  by_cases hx:no<x.1
  ·rw[if_pos hx];right;simp only[List.length_cons];omega
  ·rw[if_neg hx]
   rcases zjt no r (i+1) (by omega) with⟨h1,h2⟩|h1
   ·left
    refine⟨h1,fun y hy=> ?_⟩
    rcases List.mem_cons.1 hy with rfl|hy
    ·omega
    ·exact h2 y hy
   ·right;simp only[List.length_cons];omega
def qL(l:List bP)(no:Int)(t:ByteArray):List bP:=
 bif decide (cA no l 0<0) then l++ [(no,t,())] else l.take (cA no l 0).toNat++(no,t,())::l.drop (cA no l 0).toNat
def jE(m:eb)(no:Int)(t:ByteArray):eb:=(m.1,qL (kI m.2.1 no) no t,())
def uk(s:ze):List bP->Int->Option gx
 | [],_=>none
 |x::r,last=>bif decide (x.1<=last) then some (11,x.1,()) else bif !bF s x.1 then some (9,x.1,()) else bif !decide (cz (bd s x.1) x.2.1=0) then some (cz (bd s x.1) x.2.1,x.1,()) else uk s r x.1
def j7(s:ze)(m:eb):gx:=
 bif !decide ((gN s).1=0) then(1,-1,()) else bif !gv m.1 then(7,0,()) else bif !decide (iX m.1=s.2.1) then(7,0,()) else match uk s m.2.1 0 with
  |some f=>f
  |none=>Iq
theorem aaX{a b:eb}:a=b↔a.1=b.1/\a.2.1=b.2.1:=⟨fun h=>by rw[h];exact⟨rfl,rfl⟩,fun h=>Prod.ext h.1 (Prod.ext h.2 rfl)⟩
abbrev Map:=List bq×List aW×Unit
structure dG(m:Map):Prop where
 l6:dH m.1
 len:m.2.1.length<=1000000
 rules:∀r∈m.2.1,dq r
def dL(a b:ze):List ByteArray->List bq->Int->Option (Int×Int)
 |_,[],_=>none
 |seen,p::r,i=>if lE p a b=true then(if p.1∈seen then some (10,i) else dL a b (seen++ [p.1]) r (i+1)) else some (7,i)
abbrev Xr:=Sum (Int×Int×Int×Map×ze×ze) (Map×ze×ze)
def lh(m:Map)(a b:ze)(o:Option (Int×Int)):Option Xr:=some (match o with
 |some e=> .inl (e.1,2,e.2,m,a,b)
 |none=> .inr (m,a,b))
theorem FA(m:Map)(a b:ze):∀(l:List bq) (i:Int) (seen:List ByteArray),(∀p∈l,p.1.size<=1099511627776/\p.2.1.size<=1099511627776)->
 cg (fun i (x:bq) (s:List ib) K=>((lO x a b).bind fun r2=>(bif(!r2) then some (Sum.inl ((7:Int),(2:Int),i,m,a,b)) else(bif dY (eP .str) false s x.1 then some (Sum.inl ((10:Int),(2:Int),i,m,a,b)) else(bif dZ (eP .str) s x.1 then none else K (s++ [(x.1,true)])))))) (fun _=>some (Sum.inr (m,a,b))) l i (dh seen)=lh m a b (dL a b seen l i)
 | [],i,seen,_=>rfl
 |p::r,i,seen,h=>by
  obtain⟨h1,h2⟩:=h p List.mem_cons_self
  simp only[cg,dL]
  rw[Za p a b (by rw[zk];omega) (by rw[zk];omega),Option.bind_some]
  cases lE p a b with
  |false=>rw[if_neg (by simp)];rfl
  |true=>
   rw[if_pos rfl]
   simp only[Bool.not_true,zD]
   have e1:=JM (eP .str) (fun _ _=>rfl) p.1 seen
   have e2:=JN (eP .str) (fun _ _=>rfl) p.1 seen
   by_cases hm:p.1∈seen
   ·rw[e1.2 hm,if_pos hm];rfl
   ·rw[zP e1 hm,zP e2 hm,if_neg hm,zD,zD,z7v]
    exact FA m a b r (i+1) (seen++ [p.1]) fun q hq=>h q (List.mem_cons_of_mem _ hq)
theorem VY(m:Map)(a b:ze)(h:dH m.1):BG ah m.1 (m.1.length:Int) 0 m a b []=lh m a b (dL a b [] m.1 0):=by
 have hl:=h.len
 have:=eB jx m.1 (by rw[zk];omega) (fun i (x:bq) (s:List ib) K=>((lO x a b).bind fun r2=>(bif(!r2) then some (Sum.inl ((7:Int),(2:Int),i,m,a,b)) else(bif dY (eP .str) false s x.1 then some (Sum.inl ((10:Int),(2:Int),i,m,a,b)) else(bif dZ (eP .str) s x.1 then none else K (s++ [(x.1,true)])))))) (fun _=>some (Sum.inr (m,a,b)))
  (fun k i s=>BG k m.1 (m.1.length:Int) i m a b s) (fun k i s=>rfl) []
 rw[this]
 exact FA m a b m.1 0 [] h.sz
theorem Ve(f:ByteArray)(l:List bq):(gu l f).2=true↔f∈l.map fun p=>p.1:=by
 unfold gu
 induction l with
 |nil=>simp
 |cons p r ih=>
  rw[List.find?_cons,List.map_cons,List.mem_cons]
  by_cases h:p.1=f
  ·rw[zT h];exact⟨fun _=> .inl h.symm,fun _=>rfl⟩
  ·rw[zF h]
   exact ih.trans ⟨.inr,fun h'=>h'.resolve_left fun e=>h e.symm⟩
theorem zk0(m:Map)(a b:ze)(h:dH m.1):∀(n j k:Nat),j+n=m.1.length->n<k->Ac k (j:Int) m a b=lh m a b (dL a b ((m.1.take j).map fun p=>p.1) (m.1.drop j) j)
 |n,j,0,_,hk=>by omega
 |0,j,k+1,hj,hk=>by
  unfold Ac HO
  rw[zF (by omega),show m.1.drop j=[] from List.drop_eq_nil_of_le (by omega)];rfl
 |n+1,j,k+1,hj,hk=>by
  have hl:=h.len
  have aw:j<m.1.length:=by omega
  obtain⟨h1,h2⟩:=h.sz _ (List.getElem_mem aw)
  have hg:∀d,m.1.getD j d=m.1[j]:=fun d=>by rw[List.getD_eq_getElem?_getD,List.getElem?_eq_getElem aw];rfl
  unfold Ac HO
  rw[zT (by omega),zC,zm aw,Int.toNat_natCast,hg,zet _ _ (by rw[zk];omega),Option.bind_some,List.drop_eq_getElem_cons aw]
  simp only[dL]
  cases v1:fY m.1[j].1 a.2.1 with
  |false=>
   have:lE m.1[j] a b=false:=by unfold lE;rw[v1];rfl
   rw[this,if_neg (by simp)];rfl
  |true=>
   simp only[Bool.not_true,zD]
   rw[zet _ _ (by rw[zk];omega),Option.bind_some]
   cases v2:fY m.1[j].2.1 b.2.1 with
   |false=>
    have:lE m.1[j] a b=false:=by unfold lE;rw[v1,v2];rfl
    rw[this,if_neg (by simp)];rfl
   |true=>
    simp only[Bool.not_true,zD]
    rw[zdo _ (by rw[zk];omega),Option.bind_some,zdo _ (by rw[zk];omega),Option.bind_some]
    cases v3:(lm m.1[j].1==lm m.1[j].2.1) with
    |false=>
     have:lE m.1[j] a b=false:=by unfold lE;rw[v1,v2,v3];rfl
     rw[this,if_neg (by simp)];rfl
    |true=>
     have:lE m.1[j] a b=true:=by unfold lE;rw[v1,v2,v3];rfl
     rw[this,if_pos rfl]
     simp only[Bool.not_true,zD]
     rw[zT (by omega:(0:Int)<=(j:Int)),zT (by omega:(j:Int)<=((m.1.length:Nat):Int)),zC,zC,List.drop_zero,SD _ _ (by rw[List.length_take,zk];omega),Option.bind_some]
     have hm:=Ve m.1[j].1 (m.1.take j)
     by_cases cP:m.1[j].1∈(m.1.take j).map fun p=>p.1
     ·rw[hm.2 cP,if_pos cP];rfl
     ·rw[zP hm cP,if_neg cP,zD,jF (by omega),zk0 m a b h n (j+1) k (by omega) (by omega)]
      congr 2
      rw[List.take_add_one,List.getElem?_eq_getElem aw,List.map_append]
      rfl
def iL(x y:aW):Bool:=(!decide (x.2.1=0)&&decide (x.2.1=y.2.1))||(!decide (x.2.2.1=0)&&decide (x.2.2.1=y.2.2.1))
theorem Y9(x y:aW):pu x y=some (iL x y):=by
 unfold pu KM iL
 generalize decide (x.2.1=0)=c1
 generalize decide (x.2.1=y.2.1)=c2
 generalize decide (x.2.2.1=0)=c3
 generalize decide (x.2.2.1=y.2.2.1)=c4
 cases c1<;>cases c2<;>cases c3<;>cases c4<;>rfl
def mg(a b:ze):List aW->List aW->Int->Option (Int×Int)
 |_,[],_=>none
 |prev,r::l,i=>if cW r a b=0 then(if prev.any (fun q=>iL q r)=true then some (10,i) else mg a b (prev++ [r]) l (i+1)) else some (cW r a b,i)
def Ou(o:Option (Int×Int)):Option (Sum gS Unit):=some (match o with
 |some e=> .inl (e.1,3,e.2)
 |none=> .inr ())
def Hd(m:Map)(a b:ze)(i:Int)(t:Bool):Sum (Int×Int×Int×Int×Map×ze×ze) (Int×Map×ze×ze):=bif t then .inl (10,3,i,i,m,a,b) else .inr (i,m,a,b)
theorem zwd{m:Map}{j:Nat}(aw:j<m.2.1.length)(d:aW):m.2.1.getD j d=m.2.1[j]:=by
 rw[List.getD_eq_getElem?_getD,List.getElem?_eq_getElem aw];rfl
theorem zpm(m:Map)(a b:ze)(i:Nat)(hi:i<m.2.1.length)(hl:m.2.1.length<=1000000):∀(n j k:Nat),j+n=i->n<k->Ae k (i:Int) (j:Int) m a b=some (Hd m a b i (((m.2.1.take i).drop j).any fun q=>iL q m.2.1[i]))
 |n,j,0,_,hk=>by omega
 |0,j,k+1,hj,hk=>by
  have:j=i:=by omega
  subst this
  unfold Ae z91
  rw[zF (by omega),List.drop_eq_nil_of_le (by rw[List.length_take];omega)];rfl
 |n+1,j,k+1,hj,hk=>by
  have aw:j<m.2.1.length:=by omega
  unfold Ae z91
  have hd:(m.2.1.take i).drop j=m.2.1[j]::(m.2.1.take i).drop (j+1):=by
   rw[List.drop_eq_getElem_cons (by rw[List.length_take];omega)]
   congr 1
   rw[List.getElem_take]
  rw[zT (by omega),zC,zm aw,zm hi,Int.toNat_natCast,Int.toNat_natCast,zwd aw,zwd hi,Y9,Option.bind_some,hd,List.any_cons]
  cases iL m.2.1[j] m.2.1[i] with
  |true=>rfl
  |false=>
   rw[zD,jF (by omega)]
   dsimp only
   rw[zpm m a b i hi hl n (j+1) k (by omega) (by omega),Bool.false_or]
theorem zeh(m:Map)(a b:ze)(h:dG m)(ha:a.2.2.1.length<=maxLen)(hb:b.2.2.1.length<=maxLen):∀(n j k:Nat),j+n=m.2.1.length->n<k->Ad k (j:Int) m a b=Ou (mg a b (m.2.1.take j) (m.2.1.drop j) j)
 |n,j,0,_,hk=>by omega
 |0,j,k+1,hj,hk=>by
  unfold Ad HP
  rw[zF (by omega),List.drop_eq_nil_of_le (by omega)];rfl
 |n+1,j,k+1,hj,hk=>by
  have hl:=h.len
  have aw:j<m.2.1.length:=by omega
  unfold Ad HP
  rw[zT (by omega),zC,zm aw,Int.toNat_natCast,zwd aw,SG _ a b (h.rules _ (List.getElem_mem aw)) ha hb,Option.bind_some,List.drop_eq_getElem_cons aw]
  simp only[mg]
  by_cases z:cW m.2.1[j] a b=0
  ·rw[zT z,if_pos z]
   simp only[Bool.not_true,zD]
   have ht:=zpm m a b j aw hl j 0 ah (by omega) (by rw[hM];omega)
   rw[show((0:Nat):Int)=(0:Int) from rfl,List.drop_zero] at ht
   rw[ht,Option.bind_some]
   cases(m.2.1.take j).any fun q=>iL q m.2.1[j] with
   |true=>rw[if_pos rfl];rfl
   |false=>
    rw[if_neg (by simp)]
    unfold Hd KE
    simp only[zD,Sum.elim_inr]
    rw[jF (by omega),zeh m a b h ha hb n (j+1) k (by omega) (by omega)]
    congr 2
    rw[List.take_add_one,List.getElem?_eq_getElem aw]
    rfl
  ·rw[zF z,if_neg z];rfl
def dj(m:Map)(a b:ze):Int×Int×Int:=
 if(gN a).1=0 then(if(gN b).1=0 then(if 256<m.1.length then(5,2,256) else match dL a b [] m.1 0 with
  |some e=>(e.1,2,e.2)
  |none=>if 256<m.2.1.length then(5,3,256) else match mg a b [] m.2.1 0 with
   |some e=>(e.1,3,e.2)
   |none=>(0,0,0)) else(1,1,1)) else(1,1,0)
theorem zlr(m:Map)(a b:ze)(h:dG m)(ha:a.2.2.1.length<=maxLen)(hb:b.2.2.1.length<=maxLen):pq m a b=some (dj m a b):=by
 have h1:=h.l6.len
 have h2:=h.len
 unfold pq KC dj
 rw[za6 a ha,Option.bind_some]
 by_cases za:(gN a).1=0
 ·rw[zT za,if_pos za]
  simp only[Bool.not_true,zD]
  rw[za6 b hb,Option.bind_some]
  by_cases zb:(gN b).1=0
  ·rw[zT zb,if_pos zb]
   simp only[Bool.not_true,zD]
   by_cases hm:256<m.1.length
   ·rw[zT (by omega),if_pos hm];rfl
   ·rw[zF (by omega),if_neg hm,zD]
    have e1:=zk0 m a b h.l6 m.1.length 0 ah (by omega) (by rw[hM];omega)
    rw[show((0:Nat):Int)=(0:Int) from rfl,List.take_zero,List.drop_zero,List.map_nil] at e1
    rw[e1]
    unfold lh
    cases dL a b [] m.1 0 with
    |some e=>rfl
    |none=>
     simp only[Option.bind_some,Sum.elim_inr]
     unfold KD
     by_cases hr:256<m.2.1.length
     ·rw[zT (by omega),if_pos hr];rfl
     ·rw[zF (by omega),if_neg hr,zD]
      have e2:=zeh m a b h ha hb m.2.1.length 0 ah (by omega) (by rw[hM];omega)
      rw[show((0:Nat):Int)=(0:Int) from rfl,List.take_zero,List.drop_zero] at e2
      dsimp only
      rw[e2]
      unfold Ou
      cases mg a b [] m.2.1 0<;>rfl
  ·rw[zF zb,if_neg zb];rfl
 ·rw[zF za,if_neg za];rfl
theorem zxx(l:List Int)(f:Int):gl (l++ [f])=gl l|||gl [f]:=by simp [gl,List.foldl_append]
theorem zxy(l:List Int)(f:Int):gm (l++ [f])=gm l|||gm [f]:=by simp [gm,List.foldl_append]
theorem zwp(fs:List Int)(f:Int):(gl fs&&&gl [f]=0/\gm fs&&&gm [f]=0)↔¬(f∈fs/\hI f=true):=by
 constructor
 ·rintro⟨h1,h2⟩ ⟨h3,h4⟩
  have:=z143 (gl fs) (gm fs) (gl [f]) (gm [f]) f
  rw[h1,h2,zx9,ME,ME,h4] at this
  simp [h3] at this
 ·intro h
  refine aa5 (GY (um fs)) (GY (z40 fs)) (by decide) (by decide) fun n _ _=> ?_
  rw[zx9,z143,ME,ME]
  by_cases e:n=f
  ·subst e
   cases hr:hI n with
   |false=>simp
   |true=>
    have:n∉fs:=fun hm=>h ⟨hm,hr⟩
    simp [this]
  ·simp [e]
theorem FY(x y:Nat):(decide (((x:Nat):Int)=0)&&(decide (((y:Nat):Int)=0)&&true))=decide (x=0/\y=0):=by
 rw[Bool.and_true,<-Bool.decide_and]
 exact decide_eq_decide.2 (by omega)
theorem zoy{s:ze}(h:gQ s){no:Int}(hh:bF s no=true):hI no=true:=by
 unfold bF eQ at hh
 obtain⟨x,hx⟩:=Option.isSome_iff_exists.1 hh
 have h1:=List.find?_some hx
 have h2:=List.mem_of_find?_eq_some hx
 have h3:=FM (h.2.2.2.1 x h2)
 have h4:x.1=no:=of_decide_eq_true h1
 unfold hI
 exact zT (by omega)
theorem Td{r:aW}{a b:ze}(h:cW r a b=0):cV r a b=false:=by
 unfold cW at h
 cases hc:(decide (r.1<1)||decide ((5:Int)<r.1)) with
 |true=>rw[hc] at h;simp at h
 |false=>
  rw[hc] at h
  cases he:cV r a b with
  |false=>rfl
  |true=>rw[he] at h;simp at h
theorem Y3{r:aW}{a b:ze}(ha:gQ a)(hb:gQ b)(h:cW r a b=0):(r.2.1≠0->hI r.2.1=true)/\(r.2.2.1≠0->hI r.2.2.1=true):=by
 have he:=Td h
 unfold cV at he
 rw[Bool.or_eq_false_iff] at he
 refine⟨fun hz=> ?_,fun hz=> ?_⟩
 ·by_cases k:r.1=3
  ·rw[zT k,zF hz] at he;simp at he
  ·rw[zF k] at he
   exact zoy ha (by simpa using he.1)
 ·by_cases k:r.1=2
  ·rw[zT k,zF hz] at he;simp at he
  ·rw[zF k] at he
   exact zoy hb (by simpa using he.2)
def er(l:List aW):List Int:=l.map fun q=>q.2.1
def oo(l:List aW):List Int:=l.map fun q=>q.2.2.1
theorem Fq:hI 0=false:=by decide
theorem Wr(prev:List aW)(r:aW)(h1:r.2.1≠0->hI r.2.1=true)(h2:r.2.2.1≠0->hI r.2.2.1=true):
 prev.any (fun q=>iL q r)=(!decide (¬(r.2.1∈er prev/\hI r.2.1=true))|| !decide (¬(r.2.2.1∈oo prev/\hI r.2.2.1=true))):=by
 have e:prev.any (fun q=>iL q r)=true↔((r.2.1∈er prev/\hI r.2.1=true)\/(r.2.2.1∈oo prev/\hI r.2.2.1=true)):=by
  rw[List.any_eq_true]
  unfold iL er oo
  simp only[List.mem_map]
  constructor
  ·rintro⟨q,hq,h⟩
   simp only[Bool.or_eq_true,Bool.and_eq_true,Bool.not_eq_true',decide_eq_false_iff_not,decide_eq_true_eq] at h
   rcases h with⟨g1,g2⟩|⟨g1,g2⟩
   ·exact .inl ⟨⟨q,hq,g2⟩,h1 (by rw[<-g2];exact g1)⟩
   ·exact .inr ⟨⟨q,hq,g2⟩,h2 (by rw[<-g2];exact g1)⟩
  ·rintro(⟨⟨q,hq,g⟩,hr⟩|⟨⟨q,hq,g⟩,hr⟩)
   ·refine⟨q,hq,?_⟩
    have:q.2.1≠0:=fun e=>by rw[<-g,e,Fq] at hr;cases hr
    rw[zF this,zT g];rfl
   ·refine⟨q,hq,?_⟩
    have:q.2.2.1≠0:=fun e=>by rw[<-g,e,Fq] at hr;cases hr
    rw[zF this,zT g];simp
 cases hb:prev.any (fun q=>iL q r) with
 |true=>
  rcases e.1 hb with h|h
  ·rw[zF (fun hn=>hn h)];rfl
  ·rw[show decide (¬(r.2.2.1∈oo prev/\hI r.2.2.1=true))=false from zF (fun hn=>hn h)];simp
 |false=>
  have hn:=fun h=>(by rw[hb] at e;exact absurd (e.2 h) (by simp):False)
  rw[zT (show¬(r.2.1∈er prev/\hI r.2.1=true) from fun h=>hn (.inl h)),zT (show¬(r.2.2.1∈oo prev/\hI r.2.2.1=true) from fun h=>hn (.inr h))];rfl
abbrev S2:=Int×Int×Unit
def vB(l:List Int):S2:=((gl l:Int),(gm l:Int),())
theorem zxw(a b:ze)(ha:a.2.2.1.length<=maxLen)(hb:b.2.2.1.length<=maxLen)(oa:gQ a)(ob:gQ b):∀(l:List aW) (i:Int) (prev:List aW),(∀r∈l,dq r)->
 cg (fun i (x:aW) (s:S2×S2) K=>((lM x a b).bind fun r3=>(bif(!decide (r3=0)) then some (Sum.inl (r3,(3:Int),i)) else((rA ([x.2.1]:List Int)).bind fun r4=>((rA ([x.2.2.1]:List Int)).bind fun r5=>((pT s.1 r4).bind fun r6=>(bif(!(decide (r6.1=0)&&(decide (r6.2.1=0)&&true))) then some (Sum.inl ((10:Int),(3:Int),i)) else((pT s.2 r5).bind fun r7=>(bif(!(decide (r7.1=0)&&(decide (r7.2.1=0)&&true))) then some (Sum.inl ((10:Int),(3:Int),i)) else((pU s.1 r4).bind fun r8=>((pU s.2 r5).bind fun r9=>K (r8,r9)))))))))))) (fun _=>some (Sum.inr ())) l i (vB (er prev),vB (oo prev))=Ou (mg a b prev l i)
 | [],i,prev,_=>rfl
 |r::l,i,prev,h=>by
  simp only[cg,mg]
  rw[Sf r a b (h r List.mem_cons_self) ha hb,Option.bind_some]
  by_cases z:cW r a b=0
  ·rw[zT z,if_pos z]
   simp only[Bool.not_true,zD]
   obtain⟨i1,i2⟩:=Y3 oa ob z
   have lW:=Wr prev r i1 i2
   rw[uz _ (by simp [zk]),Option.bind_some,uz _ (by simp [zk]),Option.bind_some]
   unfold vB
   rw[FZ _ _ _ _ (um _) (z40 _) (um _) (z40 _),Option.bind_some]
   dsimp only
   rw[FY,decide_eq_decide.2 (zwp (er prev) r.2.1)]
   by_cases c1:¬(r.2.1∈er prev/\hI r.2.1=true)
   ·rw[zT c1] at lW⊢
    simp only[Bool.not_true,zD]
    rw[FZ _ _ _ _ (um _) (z40 _) (um _) (z40 _),Option.bind_some]
    dsimp only
    rw[FY,decide_eq_decide.2 (zwp (oo prev) r.2.2.1)]
    by_cases c2:¬(r.2.2.1∈oo prev/\hI r.2.2.1=true)
    ·rw[zT c2] at lW⊢
     rw[lW]
     simp only[Bool.not_true,zD,Bool.or_false]
     rw[if_neg (by simp),zaq _ _ _ _ (um _) (z40 _) (um _) (z40 _),Option.bind_some,zaq _ _ _ _ (um _) (z40 _) (um _) (z40 _),Option.bind_some]
     have:=zxw a b ha hb oa ob l (i+1) (prev++ [r]) (fun q hq=>h q (List.mem_cons_of_mem _ hq))
     rw[show er (prev++ [r])=er prev++ [r.2.1] by simp [er],show oo (prev++ [r])=oo prev++ [r.2.2.1] by simp [oo]] at this
     unfold vB at this
     rw[zxx,zxy,zxx,zxy] at this
     exact this
    ·rw[zF c2] at lW⊢
     rw[lW];rfl
   ·rw[zF c1] at lW⊢
    rw[lW];rfl
  ·rw[zF z,if_neg z];rfl
theorem Sg(m:Map)(a b:ze)(ha:a.2.2.1.length<=maxLen)(hb:b.2.2.1.length<=maxLen):BF ah ([a,b]:List ze) ((List.length ([a,b]:List ze)):Int) 0 m a b=some (if(gN a).1=0 then(if(gN b).1=0 then .inr (m,a,b) else .inl (1,1,1,m,a,b)) else .inl (1,1,0,m,a,b)):=by
 obtain⟨k,hk⟩:=vC
 rw[hk]
 simp only[BF,Mm]
 have w0:∀{R:Type} (x:Option R),zc 0 ([a,b]:List ze).length x=x:=fun x=>zj (by omega) (by simp)
 have w1:∀{R:Type} (x:Option R),zc 1 ([a,b]:List ze).length x=x:=fun x=>zj (by omega) (by simp)
 have e1:zW zI (0+1)=1:=rfl
 have e2:zW zI (1+1)=2:=rfl
 have d0:decide ((0:Int)<(([a,b]:List ze).length:Int))=true:=rfl
 have d1:decide ((1:Int)<(([a,b]:List ze).length:Int))=true:=rfl
 have d2:decide ((2:Int)<(([a,b]:List ze).length:Int))=false:=rfl
 rw[d0,zC,w0,show List.getD ([a,b]:List ze) (0:Int).toNat ((0:Int),(0:Int),([]:List Spec),())=a from rfl,zk9 a ha,Option.bind_some]
 by_cases za:(gN a).1=0
 ·rw[zT za,if_pos za]
  simp only[Bool.not_true,zD]
  rw[e1,d1,zC,w1,show List.getD ([a,b]:List ze) (1:Int).toNat ((0:Int),(0:Int),([]:List Spec),())=b from rfl,zk9 b hb,Option.bind_some]
  by_cases zb:(gN b).1=0
  ·rw[zT zb,if_pos zb]
   simp only[Bool.not_true,zD]
   rw[e2,d2,zD]
  ·rw[zF zb,if_neg zb];rfl
 ·rw[zF za,if_neg za];rfl
abbrev qU:aW:=(0,0,0,bs [],[],())
theorem zap(m:Map)(a b:ze)(h:dG m)(ha:a.2.2.1.length<=maxLen)(hb:b.2.2.1.length<=maxLen):nQ m a b=some (dj m a b):=by
 have h1:=h.l6.len
 have h2:=h.len
 unfold nQ Ml dj
 dsimp only
 rw[Sg m a b ha hb,Option.bind_some]
 by_cases za:(gN a).1=0
 ·rw[if_pos za,if_pos za]
  by_cases zb:(gN b).1=0
  ·rw[if_pos zb,if_pos zb]
   simp only[Sum.elim_inr]
   unfold Mn
   by_cases hm:256<m.1.length
   ·rw[zT (by omega),if_pos hm];rfl
   ·rw[zF (by omega),if_neg hm,zD]
    dsimp only
    rw[VY m a b h.l6]
    unfold lh
    cases dL a b [] m.1 0 with
    |some e=>rfl
    |none=>
     simp only[Option.bind_some,Sum.elim_inr]
     unfold Mo
     by_cases hr:256<m.2.1.length
     ·rw[zT (by omega),if_pos hr];rfl
     ·rw[zF (by omega),if_neg hr,zD]
      dsimp only
      have:=eB qU m.2.1 (by rw[zk];omega) (fun i (x:aW) (s:S2×S2) K=>((lM x a b).bind fun r3=>(bif(!decide (r3=0)) then some (Sum.inl (r3,(3:Int),i)) else((rA ([x.2.1]:List Int)).bind fun r4=>((rA ([x.2.2.1]:List Int)).bind fun r5=>((pT s.1 r4).bind fun r6=>(bif(!(decide (r6.1=0)&&(decide (r6.2.1=0)&&true))) then some (Sum.inl ((10:Int),(3:Int),i)) else((pT s.2 r5).bind fun r7=>(bif(!(decide (r7.1=0)&&(decide (r7.2.1=0)&&true))) then some (Sum.inl ((10:Int),(3:Int),i)) else((pU s.1 r4).bind fun r8=>((pU s.2 r5).bind fun r9=>K (r8,r9)))))))))))) (fun _=>some (Sum.inr ()))
       (fun k i s=>H4 k m.2.1 (m.2.1.length:Int) i a b s.1 s.2) (fun k i s=>rfl) (vB (er []),vB (oo []))
      have h3:=zxw a b ha hb ((JA a).1 za) ((JA b).1 zb) m.2.1 0 [] h.rules
      rw[h3] at this
      have h4:vB (er [])=((0:Int),(0:Int),()):=rfl
      have h5:vB (oo [])=((0:Int),(0:Int),()):=rfl
      rw[h4,h5] at this
      rw[this]
      unfold Ou
      cases mg a b [] m.2.1 0<;>rfl
  ·rw[if_neg zb,if_neg zb];rfl
 ·rw[if_neg za,if_neg za];rfl
instance Ji:DecidableEq aW:=fun x y=>decidable_of_iff ((decide (x.1=y.1)&&(decide (x.2.1=y.2.1)&&(decide (x.2.2.1=y.2.2.1)&&(decide (x.2.2.2.1=y.2.2.2.1)&&decide (x.2.2.2.2.1=y.2.2.2.2.1)))))=true) (by obtain⟨a1,a2,a3,a4,a5,u⟩:=x;obtain⟨b1,b2,b3,b4,b5,v⟩:=y;simp)
instance Qf:DecidableEq Map:=fun x y=>decidable_of_iff ((decide (x.1=y.1)&&decide (x.2.1=y.2.1))=true) (by obtain⟨a1,a2,u⟩:=x;obtain⟨b1,b2,v⟩:=y;simp)
def qZ(r:aW):aW:=(r.1,r.2.2.1,r.2.1,r.2.2.2.1,jD r.2.2.2.2.1,())
def E6(m:Map):Map:=(jD m.1,m.2.1.map qZ,())
abbrev EJ:Map:=([],[],())
theorem z168(r:aW)(h:dq r):lI r=some r:=by
 unfold lI Kw
 rw[zwi _ h.eC.len];rfl
theorem zws:∀(l:List aW) (i:Int) (s:Map×Map),(∀r∈l,dq r)->s.2.2.1.length+l.length<=1099511627776->
 cg (fun i (x:aW) (s:Map×Map) K=>((lI x).bind fun r2=>(bif(decide ((s.2.2.1.length+(List.length ([r2]:List aW)))*64<=140737488355328)) then K (s.1,(s.2.1,(s.2.2.1++([r2]:List aW)),())) else none))) (fun s=>some s) l i s=some (s.1,(s.2.1,s.2.2.1++l,()))
 | [],i,s,_,_=>by simp only[cg,List.append_nil]
 |r::l,i,s,h,hl=>by
  simp only[List.length_cons] at hl
  simp only[cg]
  rw[z168 r (h r List.mem_cons_self),Option.bind_some,zT (by simp;omega),zC]
  have:=zws l (i+1) (s.1,(s.2.1,(s.2.2.1++ [r]),())) (fun q hq=>h q (List.mem_cons_of_mem _ hq)) (by simp;omega)
  refine Eq.trans this ?_
  simp
theorem zwj(m:Map)(h:dG m):pr m=some m:=by
 have hl:=h.len
 unfold pr KH
 dsimp only
 rw[zwi _ h.l6.len,Option.bind_some]
 have:=eB qU m.2.1 (by rw[zk];omega) (fun i (x:aW) (s:Map×Map) K=>((lI x).bind fun r2=>(bif(decide ((s.2.2.1.length+(List.length ([r2]:List aW)))*64<=140737488355328)) then K (s.1,(s.2.1,(s.2.2.1++([r2]:List aW)),())) else none))) (fun s=>some s)
  (fun k i s=>HQ k i m s.1 s.2) (fun k i s=>rfl) (EJ,(m.1,[],()))
 rw[zws _ _ _ h.rules (by simp;omega)] at this
 rw[this]
 rfl
structure acP(r:aW)(a b:ze):Prop where
 lo:¬r.1<1
 hi:¬(5:Int)<r.1
 ends:cV r a b=false
 text:gM r=false
 kind:iC r (bd a r.2.1) (bd b r.2.2.1)=0
theorem Jx{a b:ze}:∀{l:List bq} {seen:List ByteArray} {i:Int},dL a b seen l i=none↔(∀p∈l,lE p a b=true)/\gU seen l i=none
 | [],seen,i=>by simp [dL,gU]
 |p::r,seen,i=>by
  simp only[dL,gU,List.mem_cons,forall_eq_or_imp]
  cases ht:lE p a b with
  |false=>simp
  |true=>
   rw[if_pos rfl]
   by_cases hm:p.1∈seen
   ·simp [hm]
   ·rw[if_neg hm,if_neg hm,Jx]
    simp
def Bm:List aW->List aW->Prop
 |_,[]=>True
 |prev,r::l=>prev.any (fun q=>iL q r)=false/\Bm (prev++ [r]) l
theorem Jq{a b:ze}:∀{l:List aW} {prev:List aW} {i:Int},mg a b prev l i=none↔(∀r∈l,cW r a b=0)/\Bm prev l
 | [],prev,i=>by simp [mg,Bm]
 |r::l,prev,i=>by
  simp only[mg,Bm,List.mem_cons,forall_eq_or_imp]
  by_cases z:cW r a b=0
  ·rw[if_pos z]
   cases hp:prev.any (fun q=>iL q r) with
   |true=>simp
   |false=>
    rw[if_neg (by simp),Jq]
    simp [z]
  ·rw[if_neg z];simp [z]
theorem zp9{a b:ze}:∀{l:List bq} {seen:List ByteArray} {i:Int} {e:Int×Int},dL a b seen l i=some e->e.1≠0
 |p::r,seen,i,e,h=>by
  simp only[dL] at h
  split at h
  ·split at h
   ·cases h;simp
   ·exact zp9 h
  ·cases h;simp
theorem zk5{a b:ze}:∀{l:List aW} {prev:List aW} {i:Int} {e:Int×Int},mg a b prev l i=some e->e.1≠0
 |r::l,prev,i,e,h=>by
  simp only[mg] at h
  split at h
  ·split at h
   ·cases h;simp
   ·exact zk5 h
  ·rename_i hz
   cases h;exact hz
structure dP(m:Map)(a b:ze):Prop where
 sa:(gN a).1=0
 sb:(gN b).1=0
 EH:m.1.length<=256
 typed:∀p∈m.1,lE p a b=true
 dup:gU [] m.1 0=none
 EI:m.2.1.length<=256
 rules:∀r∈m.2.1,cW r a b=0
 q7:Bm [] m.2.1
theorem Fx{m:Map}{a b:ze}:(dj m a b).1=0↔dP m a b:=by
 constructor
 ·intro h
  unfold dj at h
  split at h
  ·split at h
   ·rename_i h1 h2
    split at h
    ·cases h
    ·rename_i h3
     split at h
     ·rename_i e he
      exact absurd h (zp9 he)
     ·rename_i hm
      split at h
      ·cases h
      ·rename_i h4
       split at h
       ·rename_i e he
        exact absurd h (zk5 he)
       ·rename_i hr
        obtain⟨g1,g2⟩:=Jx.1 hm
        obtain⟨g3,g4⟩:=Jq.1 hr
        exact⟨h1,h2,by omega,g1,g2,by omega,g3,g4⟩
   ·cases h
  ·cases h
 ·intro h
  unfold dj
  have e1:=Jx.2 ⟨h.typed,h.dup⟩
  have e2:mg a b [] m.2.1 0=none:=Jq.2 ⟨h.rules,h.q7⟩
  have l1:=h.EH
  have l2:=h.EI
  rw[if_pos h.sa,if_pos h.sb,if_neg (by omega),e1]
  simp only
  rw[if_neg (by omega),e2]
theorem dP.eq{m:Map}{a b:ze}(h:dP m a b):dj m a b=(0,0,0):=by
 unfold dj
 have e1:=Jx.2 ⟨h.typed,h.dup⟩
 have e2:mg a b [] m.2.1 0=none:=Jq.2 ⟨h.rules,h.q7⟩
 have l1:=h.EH
 have l2:=h.EI
 rw[if_pos h.sa,if_pos h.sb,if_neg (by omega),e1]
 simp only
 rw[if_neg (by omega),e2]
theorem dH.turn{l:List bq}(h:dH l):dH (jD l):=⟨by rw[Wp];exact h.len,fun p hp=>by
 unfold jD at hp
 obtain⟨q,hq,rfl⟩:=List.mem_map.1 hp
 exact⟨(h.sz q hq).2,(h.sz q hq).1⟩⟩
theorem dG.turn{m:Map}(h:dG m):dG (E6 m):=⟨h.l6.turn,by show(m.2.1.map qZ).length<=_;rw[List.length_map];exact h.len,fun r hr=>by
 obtain⟨q,hq,rfl⟩:=List.mem_map.1 (show r∈m.2.1.map qZ from hr)
 exact⟨(h.rules q hq).text,(h.rules q hq).eC.turn⟩⟩
def fO(m:Map)(no:Int):Option aW:=m.2.1.find? fun r=>decide (r.2.1=no)
def BI:List aW->eb->eb
 | [],out=>out
 |r::l,out=>BI l (bif decide (r.1=3) then jE out r.2.2.1 r.2.2.2.1 else out)
def H7(m:Map)(b:ze):List bP->eb->Sum (gx×eb) eb
 | [],out=> .inr out
 |v::r,out=>match fO m v.1 with
  |none=> .inl ((9,v.1,()),out)
  |some q=>bif !decide ((fF q b v.2.1).2=0) then .inl (((fF q b v.2.1).2,v.1,()),out) else H7 m b r (bif !decide ((fF q b v.2.1).1.1=0) then jE out (fF q b v.2.1).1.1 (fF q b v.2.1).1.2.1 else out)
abbrev lg:eb:=(bs [],[],())
theorem Hs{m:Map}{no:Int}{r:aW}(h:fO m no=some r):r∈m.2.1/\r.2.1=no:=⟨List.mem_of_find?_eq_some h,by simpa using List.find?_some h⟩
def zA(m:Map)(a b:ze)(x:eb):eb×gx:=
 bif !decide ((dj m a b).1=0) then(lg,(1,-1,())) else bif !decide ((j7 a x).1=0) then(lg,j7 a x) else bif !(gu m.1 x.1).2 then(lg,(7,0,()))
 else match H7 m b x.2.1 (BI m.2.1 ((gu m.1 x.1).1,[],())) with
  | .inl (f,_)=>(lg,f)
  | .inr out=>(out,Iq)
abbrev jd(l:List bP):Prop:=l.Pairwise fun x y=>x.1<y.1
def j6(no:Int)(t:ByteArray):List bP->List bP
 | []=>[(no,t,())]
 |x::r=>if no<x.1 then(no,t,())::x::r else x::j6 no t r
theorem zju(no:Int):∀(l:List bP) (i d:Int),0<=i->0<=d->cA no l (i+d)=if cA no l i<0 then-1 else cA no l i+d
 | [],i,d,_,_=>by unfold cA;rw[if_pos (by omega)]
 |x::r,i,d,hi,hd=>by
  unfold cA
  by_cases hx:no<x.1
  ·rw[if_pos hx,if_pos hx,if_neg (by omega)]
  ·rw[if_neg hx,if_neg hx,show i+d+1=(i+1)+d by omega]
   exact zju no r (i+1) d (by omega) hd
theorem zw7(no:Int)(t:ByteArray):∀l:List bP,qL l no t=j6 no t l
 | []=>rfl
 |x::r=>by
  have ih:=zw7 no t r
  unfold qL at ih⊢
  unfold j6
  by_cases hx:no<x.1
  ·have:cA no (x::r) 0=0:=by unfold cA;rw[if_pos hx]
   rw[this,if_pos hx];rfl
  ·rw[if_neg hx,<-ih]
   have h0:cA no (x::r) 0=cA no r (0+1):=by
    show(if no<x.1 then(0:Int) else cA no r (0+1))=_
    rw[if_neg hx]
   rw[h0,zju no r 0 1 (by omega) (by omega)]
   rcases zjt no r 0 (Int.le_refl _) with⟨h1,_⟩|h1
   ·rw[h1,if_pos (by omega)];rfl
   ·rw[if_neg (by omega),zF (by omega:¬cA no r 0+1<0),zF (by omega:¬cA no r 0<0),zD,zD]
    have:(cA no r 0+1).toNat=(cA no r 0).toNat+1:=by omega
    rw[this];rfl
theorem zld(no:Int)(t:ByteArray)(v:bP):∀l:List bP,v∈j6 no t l↔v=(no,t,())\/v∈l
 | []=>by simp [j6]
 |x::r=>by
  unfold j6
  split
  ·simp
  ·rw[List.mem_cons,zld no t v r,List.mem_cons]
   constructor
   ·rintro(h|h|h)
    ·exact .inr (.inl h)
    ·exact .inl h
    ·exact .inr (.inr h)
   ·rintro(h|h|h)
    ·exact .inr (.inl h)
    ·exact .inl h
    ·exact .inr (.inr h)
theorem Fs(no:Int)(t:ByteArray):∀{l:List bP},jd l->(∀x∈l,x.1≠no)->jd (j6 no t l)
 | [],_,_=>by simp [j6,jd]
 |x::r,h,hn=>by
  have hx:=hn x List.mem_cons_self
  rw[jd,List.pairwise_cons] at h
  unfold j6
  split
  ·rename_i aw
   refine List.pairwise_cons.2 ⟨fun y hy=> ?_,List.pairwise_cons.2 h⟩
   rcases List.mem_cons.1 hy with rfl|hy
   ·exact aw
   ·have:=h.1 y hy
    show no<y.1
    omega
  ·rename_i aw
   refine List.pairwise_cons.2 ⟨fun y hy=> ?_,Fs no t h.2 (fun z hz=>hn z (List.mem_cons_of_mem _ hz))⟩
   rcases(zld no t y r).1 hy with rfl|hy
   ·show x.1<no
    omega
   ·exact h.1 y hy
theorem zwx{l:List bP}{no:Int}{v:bP}:v∈kI l no↔v∈l/\v.1≠no:=by
 unfold kI
 rw[List.mem_filter]
 simp
theorem zy7(m:eb)(no:Int)(t:ByteArray)(v:bP):v∈(jE m no t).2.1↔v=(no,t,())\/(v∈m.2.1/\v.1≠no):=by
 show v∈qL (kI m.2.1 no) no t↔_
 rw[zw7,zld,zwx]
theorem Wx{m:eb}(h:jd m.2.1)(no:Int)(t:ByteArray):jd (jE m no t).2.1:=by
 show jd (qL (kI m.2.1 no) no t)
 rw[zw7]
 exact Fs no t (h.filter _) (fun x hx=>(zwx.1 hx).2)
theorem GF:∀{l r:List bP},jd l->jd r->(∀v,v∈l↔v∈r)->l=r
 | [],[],_,_,_=>rfl
 | [],y::r,_,_,h=>by have:=(h y).2 List.mem_cons_self;cases this
 |x::l,[],_,_,h=>by have:=(h x).1 List.mem_cons_self;cases this
 |x::l,y::r,hl,hr,h=>by
  have iS:=List.pairwise_cons.1 hl
  have PO:=List.pairwise_cons.1 hr
  have e:x=y:=by
   rcases List.mem_cons.1 ((h x).1 List.mem_cons_self) with e|e
   ·exact e
   ·rcases List.mem_cons.1 ((h y).2 List.mem_cons_self) with e2|e2
    ·exact e2.symm
    ·have a1:=PO.1 x e
     have a2:=iS.1 y e2
     omega
  subst e
  congr 1
  refine GF iS.2 PO.2 fun v=>⟨fun hv=> ?_,fun hv=> ?_⟩
  ·rcases List.mem_cons.1 ((h v).1 (List.mem_cons_of_mem _ hv)) with e|e
   ·subst e;have:=iS.1 _ hv;omega
   ·exact e
  ·rcases List.mem_cons.1 ((h v).2 (List.mem_cons_of_mem _ hv)) with e|e
   ·subst e;have:=PO.1 _ hv;omega
   ·exact e
def oT:List bP->eb->eb
 | [],out=>out
 |v::l,out=>oT l (jE out v.1 v.2.1)
def hN(l:List bP):Prop:=l.Pairwise fun x y=>x.1≠y.1
theorem zk2:∀(l:List bP) (out:eb),(oT l out).1=out.1
 | [],out=>rfl
 |v::l,out=>zk2 l _
theorem zpd:∀(l:List bP) {out:eb},jd out.2.1->jd (oT l out).2.1
 | [],out,h=>h
 |v::l,out,h=>zpd l (Wx h v.1 v.2.1)
theorem zpc:∀(l:List bP) (out:eb),hN l->(∀v∈l,∀w∈out.2.1,v.1≠w.1)->∀v,v∈(oT l out).2.1↔v∈out.2.1\/v∈l
 | [],out,_,_,v=>by simp [oT]
 |x::l,out,ha,hd,v=>by
  have vE:=List.pairwise_cons.1 ha
  have hx:(x.1,x.2.1,())=x:=rfl
  rw[oT,zpc l _ vE.2 (fun y hy w hw=> ?_) v,zy7,hx,List.mem_cons]
  ·constructor
   ·rintro((h|h)|h)
    ·exact .inr (.inl h)
    ·exact .inl h.1
    ·exact .inr (.inr h)
   ·rintro(h|h|h)
    ·exact .inl (.inr ⟨h,fun e=>hd x List.mem_cons_self v h e.symm⟩)
    ·exact .inl (.inl h)
    ·exact .inr h
  ·rcases(zy7 out x.1 x.2.1 w).1 hw with e|e
   ·rw[e];exact fun h=>vE.1 y hy h.symm
   ·exact hd y (List.mem_cons_of_mem _ hy) w e.1
theorem zao:∀(l r:List bP) (out:eb),oT (l++r) out=oT r (oT l out)
 | [],r,out=>rfl
 |v::l,r,out=>zao l r _
def iK(l:List aW):List bP:=(l.filter fun r=>decide (r.1=3)).map fun r=>(r.2.2.1,r.2.2.2.1,())
theorem z8f:∀(l:List aW) (out:eb),BI l out=oT (iK l) out
 | [],out=>rfl
 |r::l,out=>by
  rw[BI]
  unfold iK
  rw[List.filter_cons]
  cases decide (r.1=3) with
  |true=>exact z8f l _
  |false=>exact z8f l _
def kg(m:Map)(b:ze):List bP->Sum gx (List bP)
 | []=> .inr []
 |v::r=>match fO m v.1 with
  |none=> .inl (9,v.1,())
  |some q=>bif !decide ((fF q b v.2.1).2=0) then .inl ((fF q b v.2.1).2,v.1,()) else match kg m b r with
   | .inl f=> .inl f
   | .inr ys=> .inr ((fF q b v.2.1).1::ys)
def b7(l:List bP):List bP:=l.filter fun v=> !decide (v.1=0)
theorem z8i(m:Map)(b:ze):∀(l:List bP) (out:eb),(∃f o,H7 m b l out= .inl (f,o)/\kg m b l= .inl f)\/(∃ys,H7 m b l out= .inr (oT (b7 ys) out)/\kg m b l= .inr ys)
 | [],out=> .inr ⟨[],rfl,rfl⟩
 |v::r,out=>by
  rw[H7,kg]
  cases fO m v.1 with
  |none=>exact .inl ⟨_,_,rfl,rfl⟩
  |some q=>
   dsimp only
   generalize fF q b v.2.1=y
   cases decide (y.2=0) with
   |false=>exact .inl ⟨_,_,rfl,rfl⟩
   |true=>
    rw[Bool.not_true,zD,zD]
    cases hz:decide (y.1.1=0) with
    |true=>
     rw[Bool.not_true,zD]
     rcases z8i m b r out with⟨f,o,h1,h2⟩|⟨ys,h1,h2⟩
     ·exact .inl ⟨f,o,h1,by rw[h2]⟩
     ·refine .inr ⟨y.1::ys,?_,by rw[h2]⟩
      rw[h1]
      have:b7 (y.1::ys)=b7 ys:=by unfold b7;rw[List.filter_cons,hz];rfl
      rw[this]
    |false=>
     rw[Bool.not_false,zC]
     rcases z8i m b r (jE out y.1.1 y.1.2.1) with⟨f,o,h1,h2⟩|⟨ys,h1,h2⟩
     ·exact .inl ⟨f,o,h1,by rw[h2]⟩
     ·refine .inr ⟨y.1::ys,?_,by rw[h2]⟩
      rw[h1]
      have:b7 (y.1::ys)=y.1::b7 ys:=by unfold b7;rw[List.filter_cons,hz];rfl
      rw[this]
      rfl
theorem Hg{m:Map}{b:ze}:∀{l ys:List bP},kg m b l= .inr ys->∀y∈ys,∃v∈l,∃q,fO m v.1=some q/\(fF q b v.2.1).2=0/\y=(fF q b v.2.1).1
 | [],ys,h,y,hy=>by cases h;cases hy
 |v::r,ys,h,y,hy=>by
  rw[kg] at h
  cases hf:fO m v.1 with
  |none=>rw[hf] at h;cases h
  |some q=>
   rw[hf] at h
   dsimp only at h
   cases hz:decide ((fF q b v.2.1).2=0) with
   |false=>rw[hz] at h;cases h
   |true=>
    rw[hz,Bool.not_true,zD] at h
    cases hr:kg m b r with
    |inl f=>rw[hr] at h;cases h
    |inr zs=>
     rw[hr] at h
     cases h
     rcases List.mem_cons.1 hy with rfl|hy
     ·exact⟨v,List.mem_cons_self,q,hf,of_decide_eq_true hz,rfl⟩
     ·obtain⟨w,hw,q',g⟩:=Hg hr y hy
      exact⟨w,List.mem_cons_of_mem _ hw,q',g⟩
theorem z162(x y:aW):iL x y=iL y x:=by
 unfold iL
 have e1:(!decide (x.2.1=0)&&decide (x.2.1=y.2.1))=(!decide (y.2.1=0)&&decide (y.2.1=x.2.1)):=by
  by_cases h:x.2.1=y.2.1
  ·rw[h]
  ·rw[zF h,zF (show¬y.2.1=x.2.1 from fun e=>h e.symm),Bool.and_false,Bool.and_false]
 have e2:(!decide (x.2.2.1=0)&&decide (x.2.2.1=y.2.2.1))=(!decide (y.2.2.1=0)&&decide (y.2.2.1=x.2.2.1)):=by
  by_cases h:x.2.2.1=y.2.2.1
  ·rw[h]
  ·rw[zF h,zF (show¬y.2.2.1=x.2.2.1 from fun e=>h e.symm),Bool.and_false,Bool.and_false]
 rw[e1,e2]
theorem zee:∀{l prev:List aW},Bm prev l->l.Pairwise (fun x y=>iL x y=false)/\∀p∈prev,∀x∈l,iL p x=false
 | [],prev,h=>⟨List.Pairwise.nil,fun _ _ x hx=>by cases hx⟩
 |r::l,prev,h=>by
  obtain⟨h1,h2⟩:=h
  obtain⟨i1,i2⟩:=zee h2
  have hp:∀p∈prev,iL p r=false:=fun p hp=>by
   have:=List.any_eq_false.1 h1 p hp
   simpa using this
  refine⟨List.pairwise_cons.2 ⟨fun y hy=>i2 r (by simp) y hy,i1⟩,fun p hp' x hx=> ?_⟩
  rcases List.mem_cons.1 hx with rfl|hx
  ·exact hp p hp'
  ·exact i2 p (by simp [hp']) x hx
theorem zer{x y:aW}(h:iL x y=false)(hx:x.2.2.1≠0):x.2.2.1≠y.2.2.1:=by
 intro e
 unfold iL at h
 rw[Bool.or_eq_false_iff] at h
 have:=h.2
 rw[zF hx,zT e] at this
 cases this
theorem FF{l:List aW}(h:l.Pairwise fun x y=>iL x y=false):∀x∈l,∀y∈l,x≠y->iL x y=false:=by
 induction l with
 |nil=>intro x hx;cases hx
 |cons r l ih=>
  obtain⟨h1,h2⟩:=List.pairwise_cons.1 h
  intro x hx y hy bB
  rcases List.mem_cons.1 hx with e1|hx1
  ·rcases List.mem_cons.1 hy with e2|P5
   ·exact absurd (e1.trans e2.symm) bB
   ·rw[e1];exact h1 y P5
  ·rcases List.mem_cons.1 hy with e2|P5
   ·rw[z162,e2];exact h1 x hx1
   ·exact ih h2 x hx1 y P5 bB
theorem Hf{s:ze}:∀{l:List bP} {last:Int},uk s l last=none↔(∀v∈l,bF s v.1=true/\cz (bd s v.1) v.2.1=0)/\jd l/\∀v∈l,last<v.1
 | [],last=>by simp [uk,jd]
 |x::r,last=>by
  rw[uk]
  by_cases h1:x.1<=last
  ·rw[zT h1,zC]
   refine⟨fun h=>(by cases h),fun h=> ?_⟩
   have:=h.2.2 x List.mem_cons_self
   omega
  rw[zF h1,zD]
  cases h2:bF s x.1 with
  |false=>
   refine⟨fun h=>(by cases h),fun h=> ?_⟩
   have:=(h.1 x List.mem_cons_self).1
   rw[h2] at this;cases this
  |true=>
   rw[Bool.not_true,zD]
   by_cases h3:cz (bd s x.1) x.2.1=0
   ·rw[zT h3,Bool.not_true,zD,Hf]
    constructor
    ·rintro⟨g1,g2,g3⟩
     refine⟨fun v hv=> ?_,List.pairwise_cons.2 ⟨g3,g2⟩,fun v hv=> ?_⟩
     ·rcases List.mem_cons.1 hv with rfl|hv
      ·exact⟨h2,h3⟩
      ·exact g1 v hv
     ·rcases List.mem_cons.1 hv with rfl|hv
      ·omega
      ·have:=g3 v hv;omega
    ·rintro⟨g1,g2,g3⟩
     have g2:=List.pairwise_cons.1 g2
     exact⟨fun v hv=>g1 v (List.mem_cons_of_mem _ hv),g2.2,g2.1⟩
   ·rw[zF h3,Bool.not_false,zC]
    refine⟨fun h=>(by cases h),fun h=> ?_⟩
    exact absurd (h.1 x List.mem_cons_self).2 h3
theorem ze6{s:ze}:∀{l:List bP} {last:Int} {f:gx},uk s l last=some f->f.1≠0
 | [],last,f,h=>by cases h
 |x::r,last,f,h=>by
  rw[uk] at h
  cases h1:decide (x.1<=last) with
  |true=>rw[h1] at h;cases h;exact(by decide:(11:Int)≠0)
  |false=>
   rw[h1,zD] at h
   cases h2:bF s x.1 with
   |false=>rw[h2] at h;cases h;exact(by decide:(9:Int)≠0)
   |true=>
    rw[h2,Bool.not_true,zD] at h
    by_cases h3:cz (bd s x.1) x.2.1=0
    ·rw[zT h3,Bool.not_true,zD] at h
     exact ze6 h
    ·rw[zF h3,Bool.not_false,zC] at h
     cases h
     exact h3
structure oU(s:ze)(m:eb):Prop where
 ka:(gN s).1=0
 right:gv m.1=true
 RV:iX m.1=s.2.1
 iR:uk s m.2.1 0=none
theorem Fz{s:ze}{m:eb}:(j7 s m).1=0↔oU s m:=by
 unfold j7
 by_cases h1:(gN s).1=0
 ·rw[zT h1,Bool.not_true,zD]
  cases h2:gv m.1 with
  |false=>exact⟨fun h=>absurd h (show¬(7:Int)=0 by decide),fun h=>by have:=h.right;rw[h2] at this;cases this⟩
  |true=>
   rw[Bool.not_true,zD]
   by_cases h3:iX m.1=s.2.1
   ·rw[zT h3,Bool.not_true,zD]
    cases h4:uk s m.2.1 0 with
    |none=>exact⟨fun _=>⟨h1,h2,h3,h4⟩,fun _=>rfl⟩
    |some f=>exact⟨fun h=>absurd h (ze6 h4),fun h=>by have:=h.iR;rw[h4] at this;cases this⟩
   ·rw[zF h3]
    exact⟨fun h=>absurd h (show¬(7:Int)=0 by decide),fun h=>absurd h.RV h3⟩
 ·rw[zF h1]
  exact⟨fun h=>absurd h (show¬(1:Int)=0 by decide),fun h=>absurd h.ka h1⟩
theorem oU.eq{s:ze}{m:eb}(h:oU s m):j7 s m=Iq:=by
 unfold j7
 rw[zT h.ka,h.right,zT h.RV,h.iR];rfl
theorem zK{s:ze}(h:gQ s){no:Int}(hh:bF s no=true):2<=no/\no<=128:=by
 have:=(zk6 (zxp h hh)).1
 rw[(Fm hh).2] at this
 exact this
theorem Hp{q:aW}{b:ze}{t:ByteArray}(h:(fF q b t).2=0)(hz:(fF q b t).1.1≠0):q.1≠2/\(fF q b t).1.1=q.2.2.1:=by
 unfold fF at h hz⊢
 by_cases k1:q.1=1
 ·rw[zT k1,zC];exact⟨by omega,rfl⟩
 rw[zF k1,zD] at h hz⊢
 by_cases k2:q.1=2
 ·rw[zT k2,zC] at hz;exact absurd rfl hz
 rw[zF k2,zD] at h hz⊢
 refine⟨k2,?_⟩
 by_cases k3:q.1=3
 ·rw[zT k3,zC]
 rw[zF k3,zD] at h hz⊢
 by_cases k4:q.1=4
 ·rw[zT k4,zC] at h hz⊢
  cases hs:bF b q.2.2.1 with
  |false=>rw[hs] at h;cases h
  |true=>
   rw[hs] at h
   rw[Bool.not_true,zD] at h⊢
   cases hp:(ff t (bd b q.2.2.1).2.2.2.1).2 with
   |false=>rw[hp] at h;cases h
   |true=>rfl
 rw[zF k4,zD] at h hz⊢
 by_cases k5:q.1=5
 ·rw[zT k5,zC] at h hz⊢
  cases hp:(gu q.2.2.2.2.1 t).2 with
  |false=>rw[hp] at h;cases h
  |true=>rfl
 ·rw[zF k5,zD] at hz;exact absurd rfl hz
theorem Bj{l:List bP}{v:bP}:v∈b7 l↔v∈l/\v.1≠0:=by
 unfold b7
 rw[List.mem_filter]
 simp
section
variable {m:Map} {a b:ze}
theorem dP.eC(h:dP m a b):m.2.1.Pairwise fun x y=>iL x y=false:=(zee h.q7).1
theorem dP.okA(h:dP m a b):gQ a:=(JA a).1 h.sa
theorem dP.okB(h:dP m a b):gQ b:=(JA b).1 h.sb
theorem dP.to(h:dP m a b){r:aW}(hr:r∈m.2.1)(k:r.1≠2):bF b r.2.2.1=true:=(ze2 (Jz (h.rules r hr)).2.1).2.2.2 k
theorem dP.Jl(h:dP m a b){r:aW}(hr:r∈m.2.1)(k:r.1≠2):r.2.2.1≠0:=by
 have:=zK h.okB (h.to hr k)
 omega
theorem FW(h:dP m a b):∀{l ys:List bP},jd l->kg m b l= .inr ys->hN (b7 ys)
 | [],ys,_,hy=>by cases hy;exact List.Pairwise.nil
 |v::r,ys,hr,hy=>by
  rw[kg] at hy
  have hr:=List.pairwise_cons.1 hr
  cases hf:fO m v.1 with
  |none=>rw[hf] at hy;cases hy
  |some q=>
   rw[hf] at hy
   dsimp only at hy
   cases hz:decide ((fF q b v.2.1).2=0) with
   |false=>rw[hz] at hy;cases hy
   |true=>
    rw[hz,Bool.not_true,zD] at hy
    cases hv:kg m b r with
    |inl f=>rw[hv] at hy;cases hy
    |inr zs=>
     rw[hv] at hy
     cases hy
     have ih:=FW h hr.2 hv
     unfold b7 at ih⊢
     rw[List.filter_cons]
     split
     ·rename_i PF
      have PF:(fF q b v.2.1).1.1≠0:=by simpa using PF
      refine List.pairwise_cons.2 ⟨fun z hzm=> ?_,ih⟩
      obtain⟨z1,z2⟩:=Bj.1 hzm
      obtain⟨w,hw,q',hf',h0',rfl⟩:=Hg hv z z1
      obtain⟨a1,a2⟩:=Hp (of_decide_eq_true hz) PF
      obtain⟨b1,b2⟩:=Hp h0' z2
      rw[a2,b2]
      obtain⟨qm,qf⟩:=Hs hf
      obtain⟨qm',qf'⟩:=Hs hf'
      have aw:=hr.1 w hw
      have bB:q≠q':=fun e=>by subst e;omega
      exact zer (FF h.eC q qm q' qm' bB) (h.Jl qm a1)
     ·exact ih
theorem Jv{l:List aW}{v:bP}:v∈iK l↔∃r∈l,r.1=3/\v=(r.2.2.1,r.2.2.2.1,()):=by
 unfold iK
 rw[List.mem_map]
 constructor
 ·rintro⟨r,hr,rfl⟩
  rw[List.mem_filter] at hr
  exact⟨r,hr.1,of_decide_eq_true hr.2,rfl⟩
 ·rintro⟨r,hr,k,rfl⟩
  exact⟨r,List.mem_filter.2 ⟨hr,zT k⟩,rfl⟩
theorem R6(h:dP m a b):hN (iK m.2.1):=by
 unfold iK
 refine List.pairwise_map.2 ?_
 refine List.Pairwise.imp_of_mem ?_ (h.eC.filter _)
 intro x y hx hy AZ
 have hx:=List.mem_filter.1 hx
 have k:x.1=3:=of_decide_eq_true hx.2
 exact zer AZ (h.Jl hx.1 (by omega))
theorem Sp(h:dP m a b){l ys:List bP}(hl:∀v∈l,bF a v.1=true)(hy:kg m b l= .inr ys):∀c∈iK m.2.1,∀y∈b7 ys,c.1≠y.1:=by
 intro c hc y hym
 obtain⟨r,hr,k,rfl⟩:=Jv.1 hc
 obtain⟨y1,y2⟩:=Bj.1 hym
 obtain⟨w,hw,q,hf,h0,rfl⟩:=Hg hy y y1
 obtain⟨b1,b2⟩:=Hp h0 y2
 rw[b2]
 obtain⟨qm,qf⟩:=Hs hf
 have hwr:=zK h.okA (hl w hw)
 have hz:=(ze2 (Jz (h.rules r hr)).2.1).1 k
 have bB:r≠q:=fun e=>by subst e;omega
 exact zer (FF h.eC r hr q qm bB) (h.Jl hr (by omega))
theorem zwm(h:dP m a b){l ys:List bP}(hr:jd l)(hl:∀v∈l,bF a v.1=true)(hy:kg m b l= .inr ys):hN (iK m.2.1++b7 ys):=
 List.pairwise_append.2 ⟨R6 h,FW h hr hy,Sp h hl hy⟩
theorem zwn(h:dP m a b){l ys:List bP}(hy:kg m b l= .inr ys):∀v∈iK m.2.1++b7 ys,bF b v.1=true:=by
 intro v hv
 rcases List.mem_append.1 hv with hv|hv
 ·obtain⟨r,hr,k,rfl⟩:=Jv.1 hv
  exact h.to hr (by omega)
 ·obtain⟨y1,y2⟩:=Bj.1 hv
  obtain⟨w,hw,q,hf,h0,rfl⟩:=Hg hy v y1
  obtain⟨b1,b2⟩:=Hp h0 y2
  rw[b2]
  exact h.to (Hs hf).1 b1
end
def mf(vs:List bP):Nat->Nat->List bP
 |0,_=>[]
 |n+1,k=>(vs.filter fun v=>decide (v.1=(k:Int)))++mf vs n (k+1)
theorem Js{vs:List bP}{v:bP}:∀{n k:Nat},v∈mf vs n k↔v∈vs/\(k:Int)<=v.1/\v.1<((k+n:Nat):Int)
 |0,k=>by simp only[mf,List.not_mem_nil,false_iff];omega
 |n+1,k=>by
  rw[mf,List.mem_append,List.mem_filter,decide_eq_true_eq,Js]
  constructor
  ·rintro(⟨h1,h2⟩|⟨h1,h2,h3⟩)
   ·exact⟨h1,by omega,by omega⟩
   ·exact⟨h1,by omega,by omega⟩
  ·rintro⟨h1,h2,h3⟩
   by_cases e:v.1=(k:Int)
   ·exact .inl ⟨h1,e⟩
   ·exact .inr ⟨h1,by omega,by omega⟩
theorem zaf{vs:List bP}(h:hN (b7 vs)):∀(n k:Nat),1<=k->jd (mf vs n k)
 |0,k,_=>List.Pairwise.nil
 |n+1,k,hk=>by
  rw[mf]
  refine List.pairwise_append.2 ⟨?_,zaf h n (k+1) (by omega),fun x hx y hy=> ?_⟩
  ·have e:(vs.filter fun v=>decide (v.1=(k:Int)))=(b7 vs).filter fun v=>decide (v.1=(k:Int)):=by
    unfold b7
    rw[List.filter_filter]
    congr 1
    funext v
    by_cases hv:v.1=(k:Int)
    ·rw[zT hv,zF (by omega:¬v.1=0)];rfl
    ·rw[zF hv];rfl
   rw[e]
   refine List.Pairwise.imp_of_mem ?_ (h.filter _)
   intro x y hx hy bB
   have h1:=of_decide_eq_true (List.mem_filter.1 hx).2
   have h2:=of_decide_eq_true (List.mem_filter.1 hy).2
   omega
  ·have h1:=of_decide_eq_true (List.mem_filter.1 hx).2
   have h2:=(Js.1 hy).2.1
   omega
def zB(m:Map)(a b:ze)(x:eb):eb×gx:=
 bif !decide ((dj m a b).1=0) then(lg,(1,-1,())) else bif !decide ((j7 a x).1=0) then(lg,j7 a x) else bif !(gu m.1 x.1).2 then(lg,(7,0,()))
 else match kg m b x.2.1 with
  | .inl f=>(lg,f)
  | .inr ys=>(((gu m.1 x.1).1,mf (ys++iK m.2.1) 127 2,()),Iq)
theorem zem(l r:List bP):b7 (l++r)=b7 l++b7 r:=by unfold b7;rw[List.filter_append]
theorem zen{m:Map}{a b:ze}(h:dP m a b):b7 (iK m.2.1)=iK m.2.1:=by
 unfold b7
 refine List.filter_eq_self.2 fun v hv=> ?_
 obtain⟨r,hr,k,rfl⟩:=Jv.1 hv
 have:=h.Jl hr (by omega)
 simpa using this
theorem zoh{l r:List bP}(h:hN (l++r)):hN (r++l):=by
 obtain⟨h1,h2,h3⟩:=List.pairwise_append.1 h
 exact List.pairwise_append.2 ⟨h2,h1,fun x hx y hy e=>h3 y hy x hx e.symm⟩
theorem Vp{m:Map}{a b:ze}(h:dP m a b){l ys:List bP}(hr:jd l)(hl:∀v∈l,bF a v.1=true)(hy:kg m b l= .inr ys)(t:ByteArray):
 oT (b7 ys) (BI m.2.1 (t,[],()))=(t,mf (ys++iK m.2.1) 127 2,()):=by
 rw[z8f,<-zao]
 have vF:=zwm h hr hl hy
 have hs:b7 (ys++iK m.2.1)=b7 ys++iK m.2.1:=by rw[zem,zen h]
 refine aaX.2 ⟨zk2 _ _,?_⟩
 refine GF (zpd _ List.Pairwise.nil) (zaf (by rw[hs];exact zoh vF) 127 2 (by omega)) fun v=> ?_
 rw[zpc _ _ vF (fun _ _ w hw=>by cases hw) v,Js]
 constructor
 ·rintro(hv|hv)
  ·cases hv
  ·have hb:=zK h.okB (zwn h hy v hv)
   refine⟨?_,by omega,by omega⟩
   rcases List.mem_append.1 hv with hv|hv
   ·exact List.mem_append_right _ hv
   ·exact List.mem_append_left _ (Bj.1 hv).1
 ·rintro⟨hv,h1,h2⟩
  right
  rcases List.mem_append.1 hv with hv|hv
  ·exact List.mem_append_right _ (Bj.2 ⟨hv,by omega⟩)
  ·exact List.mem_append_left _ hv
theorem Tp(m:Map)(a b:ze)(x:eb):zA m a b x=zB m a b x:=by
 unfold zA zB
 by_cases h1:(dj m a b).1=0
 ·rw[zT h1,Bool.not_true,zD,zD]
  by_cases h2:(j7 a x).1=0
  ·rw[zT h2,Bool.not_true,zD,zD]
   cases(gu m.1 x.1).2 with
   |false=>rfl
   |true=>
    rw[Bool.not_true,zD,zD]
    obtain⟨g1,g2,g3⟩:=Hf.1 (Fz.1 h2).iR
    rcases z8i m b x.2.1 (BI m.2.1 ((gu m.1 x.1).1,[],())) with⟨f,o,e1,e2⟩|⟨ys,e1,e2⟩
    ·rw[e1,e2]
    ·rw[e1,e2]
     dsimp only
     rw[Vp (Fx.1 h1) g2 (fun v hv=>(g1 v hv).1) e2]
  ·rw[zF h2];rfl
 ·rw[zF h1];rfl
end bA

namespace bA
open Go.IntKind renaming wrap->zW,i64->zI,u8->zU
open Go Go.Ref
abbrev E5:Ty:= .pair (.int .i64) (.pair (.int .i64) (.pair (.int .i64) (.pair (.int .i64) (.pair (.int .i64) .unit))))
abbrev aa6:Ty:= .pair (.int .i64) (.pair (.int .i64) (.pair (.sl 0 E5) .unit))
abbrev wq:Ty:= .pair .str (.pair .str .unit)
abbrev E4:Ty:= .pair (.int .i64) (.pair (.int .i64) (.pair (.int .i64) (.pair .str (.pair (.sl 0 wq) .unit))))
abbrev E3:Ty:= .pair (.sl 0 wq) (.pair (.sl 0 E4) .unit)
def small(n:Nat)(l:List bq):Bool:=l.all fun p=> !decide ((n:Int)<(p.1.size:Int))&& !decide ((n:Int)<(p.2.1.size:Int))
theorem FL{n:Nat}{l:List bq}(hn:n<=1200)(h:small n l=true):∀p∈l,p.1.size<=1099511627776/\p.2.1.size<=1099511627776:=fun p hp=>by
 have:=List.all_eq_true.1 h p hp
 simp only[Bool.and_eq_true,Bool.not_eq_true',decide_eq_false_iff_not] at this
 omega
def grR(t:Bool):Option (Sum Bool Unit):=some (bif t then .inr () else .inl true)
theorem G2:∀(l:List bq) (i:Int),cg (fun i (p:bq) (s:Unit) K=>bif(decide (1200<((p.1).size:Int))) then some (Sum.inl true) else(bif(decide (1200<((p.2.1).size:Int))) then some (Sum.inl true) else K s)) (fun _=>some (Sum.inr ())) l i ()=grR (small 1200 l)
 | [],i=>rfl
 |p::r,i=>by
  simp only[cg,small,List.all_cons]
  by_cases h1:(1200:Int)<(p.1.size:Int)
  ·rw[zT h1,zT (show((1200:Nat):Int)<(p.1.size:Int) from h1)];rfl
  ·rw[zF h1,zF (show¬((1200:Nat):Int)<(p.1.size:Int) from h1)]
   by_cases h2:(1200:Int)<(p.2.1.size:Int)
   ·rw[zT h2,zT (show((1200:Nat):Int)<(p.2.1.size:Int) from h2)];rfl
   ·rw[zF h2,zF (show¬((1200:Nat):Int)<(p.2.1.size:Int) from h2)]
    exact G2 r (i+1)
def ur(r:aW):Bool:=decide ((1200:Int)<(r.2.2.2.1.size:Int))||(decide ((300:Int)<(r.2.2.2.2.1.length:Int))|| !small 1200 r.2.2.2.2.1)
theorem SJ(r:aW)(h:r.2.2.2.2.1.length<=maxLen):lJ r=some (ur r):=by
 unfold lJ Ky ur
 cases decide ((1200:Int)<(r.2.2.2.1.size:Int)) with
 |true=>rfl
 |false=>
  cases decide ((300:Int)<(r.2.2.2.2.1.length:Int)) with
  |true=>rfl
  |false=>
   simp only[zD,Bool.false_or]
   have:=np jx r.2.2.2.2.1 h (fun i (p:bq) (s:Unit) K=>bif(decide (1200<((p.1).size:Int))) then some (Sum.inl true) else(bif(decide (1200<((p.2.1).size:Int))) then some (Sum.inl true) else K s)) (fun _=>some (Sum.inr ()))
    (fun k i s=>ue k i r) (fun k i s h0 h1=>by
      show ue (k+1) i r=_
      conv=>lhs;unfold ue HN
      rw[zT h1,zC,zj h0 h1,zj h0 h1]
      rfl) (fun k s=>by
      show ue (k+1) r.2.2.2.2.1.length r=_
      conv=>lhs;unfold ue HN
      rw[zF (by omega),zD]) ()
   rw[this,G2]
   unfold grR
   cases small 1200 r.2.2.2.2.1<;>rfl
theorem VP{r:aW}(h:ur r=false):dq r:=by
 unfold ur at h
 simp only[Bool.or_eq_false_iff,decide_eq_false_iff_not,Bool.not_eq_false'] at h
 obtain⟨h1,h2,h3⟩:=h
 exact⟨by omega,by omega,FL (by omega) h3⟩
theorem G1(m:Map):∀(l:List bq) (i:Int),cg (fun i (p:bq) (s:Unit) K=>bif(decide (100<((p.1).size:Int))) then some (Sum.inl (true,m)) else(bif(decide (100<((p.2.1).size:Int))) then some (Sum.inl (true,m)) else K s)) (fun _=>some (Sum.inr m)) l i ()=some (bif small 100 l then .inr m else .inl (true,m))
 | [],i=>rfl
 |p::r,i=>by
  simp only[cg,small,List.all_cons]
  by_cases h1:(100:Int)<(p.1.size:Int)
  ·rw[zT h1,zT (show((100:Nat):Int)<(p.1.size:Int) from h1)];rfl
  ·rw[zF h1,zF (show¬((100:Nat):Int)<(p.1.size:Int) from h1)]
   by_cases h2:(100:Int)<(p.2.1.size:Int)
   ·rw[zT h2,zT (show((100:Nat):Int)<(p.2.1.size:Int) from h2)];rfl
   ·rw[zF h2,zF (show¬((100:Nat):Int)<(p.2.1.size:Int) from h2)]
    exact G1 m r (i+1)
theorem G0:∀(l:List aW) (i:Int),(∀r∈l,r.2.2.2.2.1.length<=maxLen)->cg (fun i (x:aW) (s:Unit) K=>((lJ x).bind fun r1=>(bif r1 then some (Sum.inl true) else K s))) (fun _=>some (Sum.inr ())) l i ()=some (bif l.any ur then Sum.inl true else Sum.inr ())
 | [],i,_=>rfl
 |r::l,i,h=>by
  simp only[cg,List.any_cons]
  rw[SJ r (h r List.mem_cons_self),Option.bind_some]
  cases ur r with
  |true=>rfl
  |false=>exact G0 l (i+1) fun q hq=>h q (List.mem_cons_of_mem _ hq)
def wP(m:Map):Bool:=decide ((300:Int)<(m.1.length:Int))||(decide ((300:Int)<(m.2.1.length:Int))||(!small 100 m.1||m.2.1.any ur))
theorem SK(m:Map)(h1:m.1.length<=maxLen)(h2:m.2.1.length<=maxLen)(h3:∀r∈m.2.1,r.2.2.2.2.1.length<=maxLen):jJ m=some (wP m):=by
 unfold jJ KK wP
 cases decide ((300:Int)<(m.1.length:Int)) with
 |true=>rfl
 |false=>
  cases decide ((300:Int)<(m.2.1.length:Int)) with
  |true=>rfl
  |false=>
   simp only[zD,Bool.false_or]
   have e1:=np jx m.1 h1 (fun i (p:bq) (s:Unit) K=>bif(decide (100<((p.1).size:Int))) then some (Sum.inl (true,m)) else(bif(decide (100<((p.2.1).size:Int))) then some (Sum.inl (true,m)) else K s)) (fun _=>some (Sum.inr m))
    (fun k i s=>uf k i m) (fun k i s h0 h1=>by
      show uf (k+1) i m=_
      conv=>lhs;unfold uf HR
      rw[zT h1,zC,zj h0 h1,zj h0 h1]
      rfl) (fun k s=>by
      show uf (k+1) m.1.length m=_
      conv=>lhs;unfold uf HR
      rw[zF (by omega),zD]) ()
   rw[e1,G1]
   cases small 100 m.1 with
   |false=>rfl
   |true=>
    simp only[zC,Option.bind_some,Sum.elim_inr,Bool.not_true,Bool.false_or]
    unfold KL
    have e2:=eB qU m.2.1 h2 (fun i (x:aW) (s:Unit) K=>((lJ x).bind fun r1=>(bif r1 then some (Sum.inl true) else K s))) (fun _=>some (Sum.inr ()))
     (fun k i s=>z93 k i m) (fun k i s=>rfl) ()
    dsimp only
    rw[e2,G0 _ _ h3]
    cases m.2.1.any ur<;>rfl
theorem zx7{m:Map}(h:wP m=false):dG m:=by
 unfold wP at h
 simp only[Bool.or_eq_false_iff,decide_eq_false_iff_not,Bool.not_eq_false'] at h
 obtain⟨h1,h2,h3,h4⟩:=h
 refine⟨⟨by omega,FL (by omega) h3⟩,by omega,fun r hr=>VP ?_⟩
 cases hg:ur r with
 |false=>rfl
 |true=>rw[List.any_eq_true.2 ⟨r,hr,hg⟩] at h4;cases h4
theorem FV{m:Map}(h:Wf E3 m):jJ m=some (wP m):=
 SK m h.1.1 h.2.1.1 fun r hr=>(h.2.1.2 r hr).2.2.2.2.1.1
theorem Sl{r:aW}{b:ze}{t:ByteArray}(ht:t.size<=1099511627776)(hr:dq r):(fF r b t).1.2.1.size<=1099511627776:=by
 have h0:(bs []).size<=1099511627776:=by decide
 unfold fF
 cases decide (r.1=1) with
 |true=>exact ht
 |false=>
  rw[zD]
  cases decide (r.1=2) with
  |true=>exact h0
  |false=>
   rw[zD]
   cases decide (r.1=3) with
   |true=>exact hr.text
   |false=>
    rw[zD]
    cases decide (r.1=4) with
    |true=>
     rw[zC]
     cases bF b r.2.2.1 with
     |false=>exact h0
     |true=>
      rw[Bool.not_true,zD]
      cases hp:(ff t (bd b r.2.2.1).2.2.2.1).2 with
      |false=>exact h0
      |true=>
       obtain⟨p1,p2,p3,p4⟩:=GD hp
       show(ff t (bd b r.2.2.1).2.2.2.1).1.size<=_
       omega
    |false=>
     rw[zD]
     cases decide (r.1=5) with
     |true=>
      rw[zC]
      cases hp:(gu r.2.2.2.2.1 t).2 with
      |false=>exact h0
      |true=>
       obtain⟨p,hm,_,hq⟩:=zaa hp
       show(gu r.2.2.2.2.1 t).1.size<=_
       rw[hq]
       exact(hr.eC.sz p hm).2
     |false=>exact h0
structure b8(m:Map)(a b:ze)(x:eb)(ys:List bP):Prop where
 map:dP m a b
 msg:oU a x
 head:(gu m.1 x.1).2=true
 re:kg m b x.2.1= .inr ys
theorem b8.eq{m:Map}{a b:ze}{x:eb}{ys:List bP}(h:b8 m a b x ys):zA m a b x=(((gu m.1 x.1).1,mf (ys++iK m.2.1) 127 2,()),Iq):=by
 rw[Tp]
 unfold zB
 rw[zT (Fx.2 h.map),Bool.not_true,zD,zT (Fz.2 h.msg),Bool.not_true,zD,h.head,h.re]
 rfl
section
variable {m:Map} {a b:ze} {x:eb} {ys:List bP}
theorem b8.iR(h:b8 m a b x ys):(∀v∈x.2.1,bF a v.1=true/\cz (bd a v.1) v.2.1=0)/\jd x.2.1/\∀v∈x.2.1,0<v.1:=Hf.1 h.msg.iR
theorem b8.ris(h:b8 m a b x ys):jd (mf (ys++iK m.2.1) 127 2):=by
 obtain⟨g1,g2,g3⟩:=h.iR
 refine zaf ?_ 127 2 (by omega)
 rw[zem,zen h.map]
 exact zoh (zwm h.map g2 (fun v hv=>(g1 v hv).1) h.re)
theorem b8.mem(h:b8 m a b x ys)(v:bP):v∈mf (ys++iK m.2.1) 127 2↔v∈iK m.2.1\/(v∈ys/\v.1≠0):=by
 rw[Js,List.mem_append]
 have hr:=zwn h.map h.re
 constructor
 ·rintro⟨h1|h1,h2,h3⟩
  ·exact .inr ⟨h1,by omega⟩
  ·exact .inl h1
 ·rintro(h1|⟨h1,h2⟩)
  ·have:=zK h.map.okB (hr v (List.mem_append_left _ h1))
   exact⟨.inr h1,by omega,by omega⟩
  ·have:=zK h.map.okB (hr v (List.mem_append_right _ (Bj.2 ⟨h1,h2⟩)))
   exact⟨.inl h1,by omega,by omega⟩
theorem b8.valid(h:b8 m a b x ys)(hm:dG m)(hx:iZ x):∀v∈mf (ys++iK m.2.1) 127 2,bF b v.1=true/\v.2.1.size<=1099511627776/\cz (bd b v.1) v.2.1=0:=by
 intro v hv
 obtain⟨g1,g2,g3⟩:=h.iR
 rcases(h.mem v).1 hv with hv|⟨hv,hz⟩
 ·obtain⟨r,hr,k,rfl⟩:=Jv.1 hv
  have hc:=(Jz (h.map.rules r hr)).2.2.2
  unfold iC at hc
  rw[zF (by omega:¬r.1=1),zT k,zD,zC] at hc
  exact⟨h.map.to hr (by omega),(hm.rules r hr).text,hc⟩
 ·obtain⟨w,hw,q,hf,h0,rfl⟩:=Hg h.re v hv
  obtain⟨b1,b2⟩:=Hp h0 hz
  obtain⟨qm,qf⟩:=Hs hf
  have hwt:=hx.A7 w hw
  have:=(Sm (r:=q) (a:=a) (b:=b) hwt (hm.rules q qm) (h.map.rules q qm) h.map.okB (fun _=>by rw[qf];exact(g1 w hw).2)).2 h0
  obtain⟨e1,e2,e3⟩:=this.2 b1
  rw[b2]
  exact⟨e2,Sl hwt (hm.rules q qm),e3⟩
theorem Wt{t:ByteArray}{v:Int}(h:fY t v=true):gv t=true/\iX t=v:=by
 unfold fY at h
 rw[Bool.and_eq_true,decide_eq_true_eq] at h
 refine⟨h.1,?_⟩
 unfold iX
 rw[h.1];exact h.2
theorem b8.vZ(h:b8 m a b x ys):gv (gu m.1 x.1).1=true/\iX (gu m.1 x.1).1=b.2.1:=by
 obtain⟨p,hp,_,e⟩:=zaa h.head
 have ht:=h.map.typed p hp
 unfold lE at ht
 rw[Bool.and_eq_true,Bool.and_eq_true] at ht
 rw[e]
 exact Wt ht.2.1
theorem b8.out(h:b8 m a b x ys)(hm:dG m)(hx:iZ x):oU b ((gu m.1 x.1).1,mf (ys++iK m.2.1) 127 2,()):=by
 have hv:=h.valid hm hx
 refine⟨h.map.sb,h.vZ.1,h.vZ.2,Hf.2 ⟨fun v hm=>⟨(hv v hm).1,(hv v hm).2.2⟩,h.ris,fun v hm=> ?_⟩⟩
 have:=zK h.map.okB (hv v hm).1
 omega
end
theorem GG:∀{l:List bP} {lo:Int},jd l->(∀v∈l,lo<v.1/\v.1<=128)->(l.length:Int)<=max 0 (128-lo)
 | [],lo,_,_=>by simp;omega
 |x::r,lo,h,hr=>by
  have h:=List.pairwise_cons.1 h
  have hx:=hr x List.mem_cons_self
  have:=GG (l:=r) (lo:=x.1) h.2 (fun v hv=>⟨h.1 v hv,(hr v (List.mem_cons_of_mem _ hv)).2⟩)
  simp only[List.length_cons]
  omega
theorem b8.ok{m:Map}{a b:ze}{x:eb}{ys:List bP}(h:b8 m a b x ys)(hm:dG m)(hx:iZ x):iZ ((gu m.1 x.1).1,mf (ys++iK m.2.1) 127 2,()):=by
 have hv:=h.valid hm hx
 refine⟨?_,?_,fun v gX=>(hv v gX).2.1⟩
 ·have:=(Bf.1 h.vZ.1).1
  show(gu m.1 x.1).1.size<=_
  omega
 ·have:=GG (lo:=0) h.ris (fun v gX=>by have:=zK h.map.okB (hv v gX).1;omega)
  show(mf (ys++iK m.2.1) 127 2).length<=_
  omega
def DR(m:Map)(b:ze)(v:bP):Prop:=∃q,fO m v.1=some q/\(fF q b v.2.1).2=0
theorem Jw{m:Map}{b:ze}:∀{l:List bP},(∃ys,kg m b l= .inr ys)↔∀v∈l,DR m b v
 | []=>⟨fun _ v hv=>(by cases hv),fun _=>⟨[],rfl⟩⟩
 |v::r=>by
  rw[kg]
  constructor
  ·rintro⟨ys,h⟩ w hw
   cases hf:fO m v.1 with
   |none=>rw[hf] at h;cases h
   |some q=>
    rw[hf] at h
    dsimp only at h
    cases hz:decide ((fF q b v.2.1).2=0) with
    |false=>rw[hz] at h;cases h
    |true=>
     rw[hz,Bool.not_true,zD] at h
     rcases List.mem_cons.1 hw with rfl|hw
     ·exact⟨q,hf,of_decide_eq_true hz⟩
     ·cases hr:kg m b r with
      |inl g=>rw[hr] at h;cases h
      |inr zs=>exact Jw.1 ⟨zs,hr⟩ w hw
  ·intro h
   obtain⟨q,hf,hz⟩:=h v List.mem_cons_self
   obtain⟨zs,hr⟩:=Jw.2 fun w hw=>h w (List.mem_cons_of_mem _ hw)
   rw[hf,hr]
   dsimp only
   rw[zT hz]
   exact⟨_,rfl⟩
theorem b8.part{m:Map}{a b:ze}{x:eb}{ys:List bP}(h:b8 m a b x ys){l:List bP}(hl:List.Sublist l x.2.1):∃zs,b8 m a b (x.1,l,()) zs:=by
 obtain⟨g1,g2,g3⟩:=h.iR
 obtain⟨zs,hz⟩:=Jw.2 fun v hv=>Jw.1 ⟨ys,h.re⟩ v (hl.subset hv)
 exact⟨zs,h.map,⟨h.msg.ka,h.msg.right,h.msg.RV,Hf.2 ⟨fun v hv=>g1 v (hl.subset hv),g2.sublist hl,fun v hv=>g3 v (hl.subset hv)⟩⟩,h.head,hz⟩
end bA

namespace bA
open Go.IntKind renaming wrap->zW,i64->zI,u8->zU
open Go Go.Ref
structure uI(m:eb):Prop where
 vZ:m.1.size<=1000
 len:m.2.1.length<=1000
 A7:∀v∈m.2.1,v.2.1.size<=1000
theorem uI.ok{m:eb}(h:uI m):iZ m:=⟨by have:=h.vZ;omega,by have:=h.len;omega,fun v hv=>by have:=h.A7 v hv;omega⟩
end bA

set_option maxRecDepth 10000
namespace bA
open Go.IntKind renaming wrap->zW,i64->zI,u8->zU
open Go Go.Ref
end bA

set_option maxRecDepth 10000
namespace bA
open Go.IntKind renaming wrap->zW,i64->zI,u8->zU
open Go Go.Ref
abbrev bO:=ze×Map×List Int×List bP×Unit
abbrev wv:bP:=(0,bs [],())
def jm(s:ze)(prev:List Int)(no:Int):Int:=bif !bF s no then 9 else bif decide (no=39) then 1 else bif decide (no∈prev) then 10 else 0
def gC(s:ze):List Int->List Int->Int->Option (Int×Int)
 |_,[],_=>none
 |prev,no::r,i=>bif decide (jm s prev no=0) then gC s (prev++ [no]) r (i+1) else some (jm s prev no,i)
def jk(a:Spec)(prev:List Int)(c:bP):Int:=bif decide (c.1<0) then 1 else bif decide (16<c.1) then 1 else bif decide (c.1∈prev) then 10 else cz a c.2.1
def gy(a:Spec):List Int->List bP->Int->Option (Int×Int)
 |_,[],_=>none
 |prev,c::r,i=>bif decide (jk a prev c=0) then gy a (prev++ [c.1]) r (i+1) else some (jk a prev c,i)
def fg(s:bO):Int×Int×Int:=
 bif !decide ((gN s.1).1=0) then(1,1,0) else bif !bF s.1 39 then(9,1,1) else match gC s.1 [] s.2.2.1 0 with
  |some e=>(e.1,2,e.2)
  |none=>match gy (bd s.1 39) [] s.2.2.2.1 0 with
   |some e=>(e.1,3,e.2)
   |none=>bif decide ((0:Int)∈s.2.2.2.1.map fun c=>c.1) then(0,0,0) else(15,3,(s.2.2.2.1.length:Int))
structure cR(s:bO):Prop where
 ka:s.1.2.2.1.length<=maxLen
 lU:s.2.2.1.length<=1000000
 gA:s.2.2.2.1.length<=1000000
 A7:∀c∈s.2.2.2.1,c.2.1.size<=1099511627776
theorem Fo(no:Int):∀(l:List Int) (i:Int),0<=i->∃r,cg (fun i (x:Int) (s:Unit) K=>bif decide (no=x) then some (Sum.inl i) else K s) (fun _=>some (Sum.inr ())) l i ()=some r/\(no∈l->∃j,r= .inl j/\0<=j)/\(no∉l->r= .inr ())
 | [],i,_=>⟨_,rfl,fun h=>(by cases h),fun _=>rfl⟩
 |x::l,i,h=>by
  rw[cg]
  by_cases e:no=x
  ·rw[zT e,zC]
   exact⟨_,rfl,fun _=>⟨i,rfl,h⟩,fun hn=>absurd (by rw[e];exact List.mem_cons_self) hn⟩
  ·rw[zF e,zD]
   obtain⟨r,h1,h2,h3⟩:=Fo no l (i+1) (by omega)
   exact⟨r,h1,fun hm=>h2 ((List.mem_cons.1 hm).resolve_left e),fun hn=>h3 fun hm=>hn (List.mem_cons_of_mem _ hm)⟩
theorem zyh(l:List Int)(no:Int)(h:l.length<=maxLen):pN l no=some (decide (no∈l)):=by
 unfold pN LV sk L1
 have:=eB (0:Int) l h (fun i (x:Int) (s:Unit) K=>bif decide (no=x) then some (Sum.inl i) else K s) (fun _=>some (Sum.inr ()))
  (fun k i s=>H3 k l no (l.length:Int) i) (fun k i s=>rfl) ()
 dsimp only
 obtain⟨r,h1,h2,h3⟩:=Fo no l 0 (Int.le_refl _)
 rw[this,h1,zf]
 by_cases hm:no∈l
 ·obtain⟨j,rfl,hj⟩:=h2 hm
  rw[zT hm]
  show some (decide (0<=j))=_
  rw[zT hj]
 ·rw[h3 hm,zF hm];rfl
theorem Fp(c:bP):∀(l:List bP) (i:Int),0<=i->∃r,cg (fun i (x:bP) (s:bP) K=>((nO x s).bind fun r1=>(bif r1.1 then some (Sum.inl (i,r1.2)) else K r1.2))) (fun s=>some (Sum.inr s)) l i c=some r/\(c.1∈l.map (fun v=>v.1)->∃j,r= .inl (j,c)/\0<=j)/\(c.1∉l.map (fun v=>v.1)->r= .inr c)
 | [],i,_=>⟨_,rfl,fun h=>(by cases h),fun _=>rfl⟩
 |x::l,i,h=>by
  rw[cg]
  unfold nO LF
  rw[zf]
  dsimp only
  rw[List.map_cons]
  by_cases e:x.1=c.1
  ·rw[zT e,zC]
   exact⟨_,rfl,fun _=>⟨i,rfl,h⟩,fun hn=>absurd (by rw[e];exact List.mem_cons_self) hn⟩
  ·rw[zF e,zD]
   obtain⟨r,h1,h2,h3⟩:=Fp c l (i+1) (by omega)
   exact⟨r,h1,fun hm=>h2 ((List.mem_cons.1 hm).resolve_left fun e2=>e e2.symm),fun hn=>h3 fun hm=>hn (List.mem_cons_of_mem _ hm)⟩
theorem zyi(l:List bP)(c:bP)(h:l.length<=maxLen):pM l c=some (decide (c.1∈l.map fun v=>v.1),c):=by
 unfold pM LU sj LX
 have:=eB wv l h (fun i (x:bP) (s:bP) K=>((nO x s).bind fun r1=>(bif r1.1 then some (Sum.inl (i,r1.2)) else K r1.2))) (fun s=>some (Sum.inr s))
  (fun k i s=>H2 k l (l.length:Int) i s) (fun k i s=>rfl) c
 dsimp only
 obtain⟨r,h1,h2,h3⟩:=Fp c l 0 (Int.le_refl _)
 rw[this,h1,zf]
 by_cases hm:c.1∈l.map fun v=>v.1
 ·obtain⟨j,rfl,hj⟩:=h2 hm
  rw[zT hm]
  show some (decide (0<=j),c)=_
  rw[zT hj]
 ·rw[h3 hm,zF hm];rfl
theorem BL{α:Type}{l:List α}{j:Nat}(h:j<l.length)(d:α):l.getD j d=l[j]:=by rw[List.getD_eq_getElem?_getD,List.getElem?_eq_getElem h];rfl
theorem aaO(s:bO)(h:cR s){j:Nat}(hj:j<s.2.2.1.length):pJ s (j:Int)=some (jm s.1 (s.2.2.1.take j) s.2.2.1[j]):=by
 have he:=h.lU
 unfold pJ LG jm
 rw[zm hj,Int.toNat_natCast,BL hj,JP s.1 _ h.ka,zf]
 cases bF s.1 s.2.2.1[j] with
 |false=>rfl
 |true=>
  dsimp only
  rw[Bool.not_true,zD,zD]
  cases decide (s.2.2.1[j]=39) with
  |true=>rfl
  |false=>
   rw[zD,zD,zT (by omega),zC,zT (by omega),zC,List.drop_zero,zyh _ _ (by rw[List.length_take,zk];omega),zf]
   cases decide (s.2.2.1[j]∈s.2.2.1.take j)<;>rfl
theorem aaM(s:bO)(h:cR s)(a:Spec){j:Nat}(hj:j<s.2.2.2.1.length):pI s (j:Int) a=some (jk a ((s.2.2.2.1.take j).map fun c=>c.1) s.2.2.2.1[j]):=by
 have he:=h.gA
 have ht:=h.A7 _ (List.getElem_mem hj)
 unfold pI LD jk
 rw[zm hj,Int.toNat_natCast,BL hj]
 cases decide (s.2.2.2.1[j].1<0) with
 |true=>rfl
 |false=>
  rw[zD,zD]
  cases decide (16<s.2.2.2.1[j].1) with
  |true=>rfl
  |false=>
   rw[zD,zD,zT (by omega),zC,zT (by omega),zC,List.drop_zero,zyi _ _ (by rw[List.length_take,zk];omega),zf]
   dsimp only
   cases decide (s.2.2.2.1[j].1∈(s.2.2.2.1.take j).map fun c=>c.1) with
   |true=>rfl
   |false=>rw[zD,zD,JG _ _ ht];rfl
theorem zwy(s:bO)(h:cR s)(sp:Spec):∀(n j k:Nat),j+n=s.2.2.1.length->n<k->Ak k (s.2.2.1.length:Int) (j:Int) s sp=some (match gC s.1 (s.2.2.1.take j) (s.2.2.1.drop j) j with
 |some e=> .inl (e.1,2,e.2,s,sp)
 |none=> .inr (s,sp))
 |n,j,0,_,hk=>by omega
 |0,j,k+1,hj,hk=>by
  unfold Ak HW
  rw[zF (by omega),zD,List.drop_eq_nil_of_le (by omega)];rfl
 |n+1,j,k+1,hj,hk=>by
  have aw:j<s.2.2.1.length:=by omega
  have he:=h.lU
  unfold Ak HW
  rw[zT (by omega),zC,aaO s h aw,zf,List.drop_eq_getElem_cons aw,gC]
  cases decide (jm s.1 (s.2.2.1.take j) s.2.2.1[j]=0) with
  |false=>rfl
  |true=>
   rw[Bool.not_true,zD,zC]
   dsimp only
   rw[jF (by omega),List.take_append_getElem aw]
   exact zwy s h sp n (j+1) k (by omega) (by omega)
def jI(t:Bool):List bP->Bool
 | []=>t
 |c::r=>jI (t||decide (c.1=0)) r
theorem FX(t:Bool):∀l:List bP,jI t l=(t||decide ((0:Int)∈l.map fun c=>c.1))
 | []=>by simp [jI]
 |c::r=>by
  rw[jI,FX _ r,List.map_cons,Bool.or_assoc]
  congr 1
  rw[<-Bool.decide_or]
  exact decide_eq_decide.2 ⟨fun h=>h.elim (fun e=>by rw[<-e];exact List.mem_cons_self) (List.mem_cons_of_mem _),fun h=>(List.mem_cons.1 h).imp (fun e=>e.symm) id⟩
theorem zdy(s:bO)(h:cR s)(a:Spec):∀(n j k:Nat) (t:Bool),j+n=s.2.2.2.1.length->n<k->∃t',Al k t s.2.2.2.1 (s.2.2.2.1.length:Int) (j:Int) s a=some (match gy a ((s.2.2.2.1.take j).map fun c=>c.1) (s.2.2.2.1.drop j) j with
 |some e=> .inl (e.1,3,e.2,t',s)
 |none=> .inr (jI t (s.2.2.2.1.drop j),s))
 |n,j,0,t,_,hk=>by omega
 |0,j,k+1,t,hj,hk=>by
  unfold Al HX
  rw[zF (by omega),zD,List.drop_eq_nil_of_le (by omega)]
  exact⟨t,rfl⟩
 |n+1,j,k+1,t,hj,hk=>by
  have aw:j<s.2.2.2.1.length:=by omega
  have he:=h.gA
  unfold Al HX
  rw[zT (by omega),zC,zm aw,aaM s h a aw,zf,List.drop_eq_getElem_cons aw,gy,jI]
  cases decide (jk a ((s.2.2.2.1.take j).map fun c=>c.1) s.2.2.2.1[j]=0) with
  |false=>exact⟨t,rfl⟩
  |true=>
   rw[Bool.not_true,zD,zC]
   dsimp only
   rw[jF (by omega),Int.toNat_natCast,BL aw]
   have e:(s.2.2.2.1.take j).map (fun c=>c.1)++ [s.2.2.2.1[j].1]=(s.2.2.2.1.take (j+1)).map fun c=>c.1:=by rw[<-List.take_append_getElem aw,List.map_append];rfl
   rw[e]
   cases t with
   |true=>
    rw[zC,Bool.true_or]
    exact zdy s h a n (j+1) k true (by omega) (by omega)
   |false=>
    rw[zD,Bool.false_or]
    exact zdy s h a n (j+1) k _ (by omega) (by omega)
theorem zk4(s:bO)(h:cR s):pH s=some (fg s):=by
 have he:=h.lU
 have hc:=h.gA
 unfold pH Lw fg
 rw[zk9 s.1 h.ka,zf]
 cases decide ((gN s.1).1=0) with
 |false=>rfl
 |true=>
  rw[Bool.not_true,zD,zD,JP s.1 39 h.ka,zf]
  cases bF s.1 39 with
  |false=>rfl
  |true=>
   dsimp only
   rw[Bool.not_true,zD,zD]
   have e1:=zwy s h (bd s.1 39) s.2.2.1.length 0 ah (by omega) (by rw[hM];omega)
   rw[List.take_zero,List.drop_zero,show((0:Nat):Int)=0 from rfl] at e1
   rw[e1,zf]
   cases gC s.1 [] s.2.2.1 0 with
   |some e=>rfl
   |none=>
    dsimp only
    rw[Sum.elim_inr]
    unfold Lx
    dsimp only
    obtain⟨t',e2⟩:=zdy s h (bd s.1 39) s.2.2.2.1.length 0 ah false (by omega) (by rw[hM];omega)
    rw[List.take_zero,List.drop_zero,show((0:Nat):Int)=0 from rfl,List.map_nil] at e2
    rw[e2,zf]
    cases gy (bd s.1 39) [] s.2.2.2.1 0 with
    |some e=>rfl
    |none=>
     dsimp only
     rw[Sum.elim_inr]
     unfold Ly
     rw[FX,Bool.false_or]
     dsimp only
     cases decide ((0:Int)∈s.2.2.2.1.map fun c=>c.1)<;>rfl
theorem zjn(l:List bP)(hl:l.length<=9223372036854775807)(m:Nat)(hm:m<=l.length)(e:Int):∀(n j k:Nat),j+n=m->n<k->∃r,Ah k l (m:Int) e (j:Int)=some r/\(e∈((l.take m).drop j).map (fun v=>v.1)->∃i,r= .inl i/\0<=i)/\(e∉((l.take m).drop j).map (fun v=>v.1)->r= .inr ())
 |n,j,0,_,hk=>by omega
 |0,j,k+1,hj,hk=>by
  unfold Ah HV
  rw[zF (by omega),zD,List.drop_eq_nil_of_le (by rw[List.length_take];omega)]
  exact⟨_,rfl,fun h=>(by cases h),fun _=>rfl⟩
 |n+1,j,k+1,hj,hk=>by
  have aw:j<l.length:=by omega
  have fw:j<(l.take m).length:=by rw[List.length_take];omega
  unfold Ah HV
  rw[zT (by omega),zC,zm aw,Int.toNat_natCast,BL aw,List.drop_eq_getElem_cons fw,List.map_cons,List.getElem_take]
  by_cases he:l[j].1=e
  ·rw[zT he,zC]
   exact⟨_,rfl,fun _=>⟨(j:Int),rfl,by omega⟩,fun hn=>absurd (by rw[he];exact List.mem_cons_self) hn⟩
  ·rw[zF he,zD]
   dsimp only
   rw[jF (by omega)]
   obtain⟨r,h1,h2,h3⟩:=zjn l hl m hm e n (j+1) k (by omega) (by omega)
   exact⟨r,h1,fun hm=>h2 ((List.mem_cons.1 hm).resolve_left fun e2=>he e2.symm),fun hn=>h3 fun hm=>hn (List.mem_cons_of_mem _ hm)⟩
theorem zx5(l:List bP)(hl:l.length<=maxLen)(m:Nat)(hm:m<=l.length)(e:Int):∃r,nI l (m:Int) e=some r/\decide (0<=r)=decide (e∈(l.take m).map fun v=>v.1):=by
 unfold nI KY
 rw[zk] at hl
 obtain⟨r,h1,h2,h3⟩:=zjn l (by omega) m hm e m 0 ah (by omega) (by rw[hM];omega)
 rw[show((0:Nat):Int)=0 from rfl] at h1
 dsimp only
 rw[h1,zf]
 rw[List.drop_zero] at h2 h3
 by_cases cP:e∈(l.take m).map fun v=>v.1
 ·obtain⟨i,rfl,hi⟩:=h2 cP
  exact⟨i,rfl,by rw[zT hi,zT cP]⟩
 ·rw[h3 cP]
  exact⟨-1,rfl,by rw[zF cP];rfl⟩
theorem zjk(s:bO)(h:cR s)(t5:Int):∀(n j k:Nat),j+n=s.2.2.1.length->n<k->Af k t5 (j:Int) s=some (match gC s.1 (s.2.2.1.take j) (s.2.2.1.drop j) j with
 |some e=> .inl (e.1,2,e.2,t5,s)
 |none=> .inr (t5,s))
 |n,j,0,_,hk=>by omega
 |0,j,k+1,hj,hk=>by
  unfold Af HS
  rw[zF (by omega),zD,List.drop_eq_nil_of_le (by omega)];rfl
 |n+1,j,k+1,hj,hk=>by
  have aw:j<s.2.2.1.length:=by omega
  have he:=h.lU
  have ih:=zjk s h t5 n (j+1) k (by omega) (by omega)
  have hw:∀{R:Type} (z:Option R),zc (j:Int) s.2.2.1.length z=z:=fun z=>zm aw
  unfold Af HS
  simp only[hw]
  rw[zT (by omega),zC,Int.toNat_natCast,BL aw,JD s.1 _ h.ka,zf,List.drop_eq_getElem_cons aw,gC]
  unfold jm
  rcases z87 s.1 s.2.2.1[j] with⟨h1,h2,_⟩|⟨h1,_,h2,_⟩
  ·rw[h1,h2];rfl
  ·rw[h2,zF (by omega),zD,Bool.not_true,zD]
   cases decide (s.2.2.1[j]=39) with
   |true=>rfl
   |false=>
    rw[zD,zD,zT (by omega),zC,zT (by omega),zC,List.drop_zero,Zi _ _ (by rw[List.length_take,zk];omega),zf]
    cases decide (s.2.2.1[j]∈s.2.2.1.take j) with
    |true=>rfl
    |false=>
     rw[zD,zD,zT rfl,zC]
     rw[jF (by omega),List.take_append_getElem aw]
     exact ih
theorem zjj(s:bO)(h:cR s)(t5:Int)(h5:0<=t5/\t5<s.1.2.2.1.length)(hs5:List.getD s.1.2.2.1 t5.toNat cK=bd s.1 39):∀(n j k:Nat),j+n=s.2.2.2.1.length->n<k->Ag k t5 (j:Int) s=some (match gy (bd s.1 39) ((s.2.2.2.1.take j).map fun c=>c.1) (s.2.2.2.1.drop j) j with
 |some e=> .inl (e.1,3,e.2,s)
 |none=> .inr s)
 |n,j,0,_,hk=>by omega
 |0,j,k+1,hj,hk=>by
  unfold Ag HT
  rw[zF (by omega),zD,List.drop_eq_nil_of_le (by omega)];rfl
 |n+1,j,k+1,hj,hk=>by
  have aw:j<s.2.2.2.1.length:=by omega
  have he:=h.gA
  have ih:=zjj s h t5 h5 hs5 n (j+1) k (by omega) (by omega)
  have hw:∀{R:Type} (z:Option R),zc (j:Int) s.2.2.2.1.length z=z:=fun z=>zm aw
  have hw5:∀{R:Type} (z:Option R),zc t5 s.1.2.2.1.length z=z:=fun z=>zj h5.1 h5.2
  have ht:=h.A7 _ (List.getElem_mem aw)
  obtain⟨r,f1,f2⟩:=zx5 s.2.2.2.1 (by rw[zk];omega) j (by omega) s.2.2.2.1[j].1
  unfold Ag HT
  simp only[hw,hw5]
  rw[zT (by omega),zC,Int.toNat_natCast,BL aw,f1,zf,f2,hs5,Ba _ _ ht,zf,List.drop_eq_getElem_cons aw,gy]
  unfold jk
  cases decide (s.2.2.2.1[j].1<0) with
  |true=>rfl
  |false=>
   rw[zD,zD]
   cases decide (16<s.2.2.2.1[j].1) with
   |true=>rfl
   |false=>
    rw[zD,zD]
    cases decide (s.2.2.2.1[j].1∈(s.2.2.2.1.take j).map fun c=>c.1) with
    |true=>rfl
    |false=>
     rw[zD,zD]
     cases decide (cz (bd s.1 39) s.2.2.2.1[j].2.1=0) with
     |false=>rfl
     |true=>
      rw[Bool.not_true,zD,zC]
      have e:(s.2.2.2.1.take j).map (fun c=>c.1)++ [s.2.2.2.1[j].1]=(s.2.2.2.1.take (j+1)).map fun c=>c.1:=by rw[<-List.take_append_getElem aw,List.map_append];rfl
      rw[jF (by omega),e]
      exact ih
theorem zls(s:bO)(h:cR s):pw s=some (fg s):=by
 have he:=h.lU
 have hc:=h.gA
 unfold pw KQ fg
 rw[za6 s.1 h.ka,zf]
 cases decide ((gN s.1).1=0) with
 |false=>rfl
 |true=>
  rw[Bool.not_true,zD,zD,JD s.1 39 h.ka,zf]
  rcases z87 s.1 39 with⟨h1,h2,_⟩|⟨h1,O9,h2,h3⟩
  ·rw[h1,h2];rfl
  ·rw[h2,zF (by omega),zD,Bool.not_true,zD]
   dsimp only
   have e1:=zjk s h (dX s.1.2.2.1 39 0) s.2.2.1.length 0 ah (by omega) (by rw[hM];omega)
   rw[List.take_zero,List.drop_zero,show((0:Nat):Int)=0 from rfl] at e1
   rw[e1,zf]
   cases gC s.1 [] s.2.2.1 0 with
   |some e=>rfl
   |none=>
    dsimp only
    rw[Sum.elim_inr]
    unfold KR
    dsimp only
    have e2:=zjj s h (dX s.1.2.2.1 39 0) ⟨h1,O9⟩ h3 s.2.2.2.1.length 0 ah (by omega) (by rw[hM];omega)
    rw[List.take_zero,List.drop_zero,show((0:Nat):Int)=0 from rfl,List.map_nil] at e2
    rw[e2,zf]
    cases gy (bd s.1 39) [] s.2.2.2.1 0 with
    |some e=>rfl
    |none=>
     dsimp only
     rw[Sum.elim_inr]
     unfold KS
     obtain⟨r,f1,f2⟩:=zx5 s.2.2.2.1 (by rw[zk];omega) s.2.2.2.1.length (Nat.le_refl _) 0
     rw[List.take_length] at f2
     rw[f1,zf]
     by_cases hr:0<=r
     ·rw[zT hr] at f2
      rw[zF (by omega),<-f2];rfl
     ·rw[zF hr] at f2
      rw[zT (by omega),<-f2];rfl
abbrev As:=List bO×Int×Unit
abbrev aa4:ze:=((0:Int),(0:Int),([]:List Spec),())
abbrev nt:bO:=(aa4,EJ,([]:List Int),([]:List bP),())
abbrev E2:Ty:= .pair (.int .i64) (.pair .str .unit)
abbrev qV:Ty:= .pair aa6 (.pair E3 (.pair (.sl 0 (.int .i64)) (.pair (.sl 0 E2) .unit)))
abbrev zwe:Ty:= .pair (.arr 2 qV) (.pair (.int .i64) .unit)
theorem Ws{c:As}(h:c.1.length=2):∃p q,c=([p,q],c.2.1,()):=by
 obtain⟨l,n,u⟩:=c
 match l,h with
 | [p,q],_=>exact⟨p,q,rfl⟩
theorem Ol:∃k,ah=k+1+1+1:=⟨ah-3,by rw[hM]⟩
def BW(s:bO):Bool:=decide ((200:Int)<(s.1.2.2.1.length:Int))||(decide ((300:Int)<(s.2.2.1.length:Int))||(decide ((300:Int)<(s.2.2.2.1.length:Int))||s.2.2.2.1.any fun c=>decide ((1200:Int)<(c.2.1.size:Int))))
theorem G3:∀(l:List bP) (i:Int),cg (fun i (x:bP) (s:Unit) K=>(bif(decide ((1200:Int)<((x.2.1).size:Int))) then some (Sum.inl true) else K s)) (fun _=>some (Sum.inr ())) l i ()=some (bif l.any (fun c=>decide ((1200:Int)<(c.2.1.size:Int))) then Sum.inl true else Sum.inr ())
 | [],i=>rfl
 |x::r,i=>by
  rw[cg,List.any_cons]
  cases decide ((1200:Int)<(x.2.1.size:Int)) with
  |true=>rfl
  |false=>exact G3 r (i+1)
theorem zlt(s:bO)(h:s.2.2.2.1.length<=maxLen):kA s=some (BW s):=by
 unfold kA KV BW
 cases decide ((200:Int)<(s.1.2.2.1.length:Int)) with
 |true=>rfl
 |false=>
  rw[zD,Bool.false_or]
  cases decide ((300:Int)<(s.2.2.1.length:Int)) with
  |true=>rfl
  |false=>
   rw[zD,Bool.false_or]
   cases decide ((300:Int)<(s.2.2.2.1.length:Int)) with
   |true=>rfl
   |false=>
    rw[zD,Bool.false_or]
    have:=eB wv s.2.2.2.1 h (fun i (x:bP) (s:Unit) K=>(bif(decide ((1200:Int)<((x.2.1).size:Int))) then some (Sum.inl true) else K s)) (fun _=>some (Sum.inr ()))
     (fun k i u=>HU k i s) (fun k i u=>rfl) ()
    dsimp only
    rw[this,G3]
    cases s.2.2.2.1.any (fun c=>decide ((1200:Int)<(c.2.1.size:Int)))<;>rfl
theorem zx8{s:bO}(h:BW s=false):cR s/\s.1.2.2.1.length<=200/\s.2.2.1.length<=300/\s.2.2.2.1.length<=300/\∀c∈s.2.2.2.1,c.2.1.size<=1200:=by
 unfold BW at h
 simp only[Bool.or_eq_false_iff,decide_eq_false_iff_not] at h
 obtain⟨h1,h2,h3,h4⟩:=h
 have ht:∀c∈s.2.2.2.1,c.2.1.size<=1200:=fun c hc=>by
  by_cases e:(1200:Int)<(c.2.1.size:Int)
  ·rw[List.any_eq_true.2 ⟨c,hc,zT e⟩] at h4;cases h4
  ·omega
 exact⟨⟨by rw[zk];omega,by omega,by omega,fun c hc=>by have:=ht c hc;omega⟩,by omega,by omega,by omega,ht⟩
structure dQ(p q:bO):Prop where
 sp:cR p
 sq:cR q
 pm:dG p.2.1
 qm:dG q.2.1
 yw:p.1.2.2.1.length<=200
 yz:q.1.2.2.1.length<=200
 pe:p.2.2.1.length<=300
 qe:q.2.2.1.length<=300
 pml:p.2.1.2.1.length<=300
 qml:q.2.1.2.1.length<=300
 RH:∀c∈p.2.2.2.1,c.2.1.size<=1200
 RJ:∀c∈q.2.2.2.1,c.2.1.size<=1200
theorem zjs{m:Map}(h:wP m=false):m.2.1.length<=300:=by
 unfold wP at h
 simp only[Bool.or_eq_false_iff,decide_eq_false_iff_not] at h
 omega
theorem S4{p q:bO}{n:Int}(h:Wf zwe ([p,q],n,())):∃g,nJ ([p,q],n,())=some g/\(g=false->dQ p q):=by
 have hp:Wf qV p:=h.1.2 p (by simp)
 have hq:Wf qV q:=h.1.2 q (by simp)
 have w0:∀{R:Type} (x:Option R),zc 0 2 x=x:=fun x=>zj (by omega) (by omega)
 have w1:∀{R:Type} (x:Option R),zc 1 2 x=x:=fun x=>zj (by omega) (by omega)
 unfold nJ K3
 simp only[w0,w1]
 show∃g,((kA p).bind fun r1=>(bif r1 then some true else((kA q).bind fun r2=>(bif r2 then some true else((jJ p.2.1).bind fun r3=>(bif r3 then some true else((jJ q.2.1).bind fun r4=>some r4)))))))=some g/\_
 rw[zlt p hp.2.2.2.1.1,zf]
 cases h1:BW p with
 |true=>exact⟨true,rfl,fun h=>by cases h⟩
 |false=>
  rw[zD,zlt q hq.2.2.2.1.1,zf]
  cases h2:BW q with
  |true=>exact⟨true,rfl,fun h=>by cases h⟩
  |false=>
   rw[zD,FV hp.2.1,zf]
   cases h3:wP p.2.1 with
   |true=>exact⟨true,rfl,fun h=>by cases h⟩
   |false=>
    rw[zD,FV hq.2.1,zf]
    refine⟨_,rfl,fun h4=> ?_⟩
    obtain⟨a1,a2,a3,a4,a5⟩:=zx8 h1
    obtain⟨b1,b2,b3,b4,b5⟩:=zx8 h2
    exact⟨a1,b1,zx7 h3,zx7 h4,a2,b2,a3,b3,zjs h3,zjs h4,a5,b5⟩
def iQ(p q:bO)(n:Int):Int×Int×Int:=
 bif decide (n<1) then(5,2,0) else bif decide (65535<n) then(5,2,0)
 else bif !decide ((fg p).1=0) then((fg p).1,0,1) else bif !decide ((dj p.2.1 p.1 q.1).1=0) then((dj p.2.1 p.1 q.1).1,0,2)
 else bif !decide ((fg q).1=0) then((fg q).1,1,1) else bif !decide ((dj q.2.1 q.1 p.1).1=0) then((dj q.2.1 q.1 p.1).1,1,2) else(0,0,0)
theorem rI{R:Type}(x:Option R):zc 0 2 x=x:=zj (by omega) (by omega)
theorem rJ{R:Type}(x:Option R):zc 1 2 x=x:=zj (by omega) (by omega)
theorem wy:zW zI ((1:Int)-(0:Int))=1:=by decide
theorem wA:zW zI ((1:Int)-(1:Int))=0:=by decide
theorem ww:zW zI ((0:Int)+(1:Int))=1:=by decide
theorem wB:zW zI ((1:Int)+(1:Int))=2:=by decide
theorem gp(p q:bO):List.getD [p,q] (0:Int).toNat nt=p:=rfl
theorem gq(p q:bO):List.getD [p,q] (1:Int).toNat nt=q:=rfl
theorem zyd(p q:bO)(n:Int)(h:dQ p q):nP ([p,q],n,())=some (iQ p q n):=by
 obtain⟨k,hk⟩:=Ol
 unfold nP LI iQ
 dsimp only
 cases decide (n<1) with
 |true=>rfl
 |false=>
  cases decide (65535<n) with
  |true=>rfl
  |false=>
   rw[zD,zD,zD,zD,hk]
   unfold Am BC
   simp only[rI,rJ,wy,wA,ww,wB,gp,gq]
   rw[zT (by decide:(0:Int)<2),zC,zk4 p h.sp,zf]
   cases decide ((fg p).1=0) with
   |false=>rfl
   |true=>
    rw[Bool.not_true,zD,zD,zap p.2.1 p.1 q.1 h.pm h.sp.ka h.sq.ka,zf]
    cases decide ((dj p.2.1 p.1 q.1).1=0) with
    |false=>rfl
    |true=>
     rw[Bool.not_true,zD,zD]
     unfold Am BC
     simp only[rI,rJ,wy,wA,ww,wB,gp,gq]
     rw[zT (by decide:(1:Int)<2),zC,zk4 q h.sq,zf]
     cases decide ((fg q).1=0) with
     |false=>rfl
     |true=>
      rw[Bool.not_true,zD,zD,zap q.2.1 q.1 p.1 h.qm h.sq.ka h.sp.ka,zf]
      cases decide ((dj q.2.1 q.1 p.1).1=0) with
      |false=>rfl
      |true=>
       rw[Bool.not_true,zD,zD]
       unfold Am BC
       rw[zF (by decide:¬(2:Int)<2),zD]
       rfl
theorem SH(p q:bO)(n:Int)(h:dQ p q):pB ([p,q],n,())=some (iQ p q n):=by
 obtain⟨k,hk⟩:=Ol
 unfold pB K0 iQ
 dsimp only
 cases decide (n<1) with
 |true=>rfl
 |false=>
  cases decide (65535<n) with
  |true=>rfl
  |false=>
   rw[zD,zD,zD,zD,hk]
   unfold Ai BA
   simp only[rI,rJ,wy,wA,ww,wB,gp,gq]
   rw[zT (by decide:(0:Int)<2),zC,zls p h.sp,zf]
   cases decide ((fg p).1=0) with
   |false=>rfl
   |true=>
    rw[Bool.not_true,zD,zD,zlr p.2.1 p.1 q.1 h.pm h.sp.ka h.sq.ka,zf]
    cases decide ((dj p.2.1 p.1 q.1).1=0) with
    |false=>rfl
    |true=>
     rw[Bool.not_true,zD,zD]
     unfold Ai BA
     simp only[rI,rJ,wy,wA,ww,wB,gp,gq]
     rw[zT (by decide:(1:Int)<2),zC,zls q h.sq,zf]
     cases decide ((fg q).1=0) with
     |false=>rfl
     |true=>
      rw[Bool.not_true,zD,zD,zlr q.2.1 q.1 p.1 h.qm h.sq.ka h.sp.ka,zf]
      cases decide ((dj q.2.1 q.1 p.1).1=0) with
      |false=>rfl
      |true=>
       rw[Bool.not_true,zD,zD]
       unfold Ai BA
       rw[zF (by decide:¬(2:Int)<2),zD]
       rfl
theorem zwk(s:bO)(h:cR s)(h2:s.1.2.2.1.length<=200):pA s=some s:=by
 have he:=h.lU
 have hc:=h.gA
 unfold pA KT
 rw[z167 s.1 (by omega),zf,zT (by simp;omega),zC,zT (by simp;omega),zC]
 rfl
theorem nr(p q r:bO):List.set [p,q] (0:Int).toNat r=[r,q]:=rfl
theorem ns(p q r:bO):List.set [p,q] (1:Int).toNat r=[p,r]:=rfl
theorem IP(p q:bO):List.getD [p,q] (0:Int).toNat ((((0:Int),(0:Int),([]:List Spec),()),(([]:List bq),([]:List aW),()),([]:List Int),([]:List bP),()):bO)=p:=rfl
theorem IQ(p q:bO):List.getD [p,q] (1:Int).toNat ((((0:Int),(0:Int),([]:List Spec),()),(([]:List bq),([]:List aW),()),([]:List Int),([]:List bP),()):bO)=q:=rfl
theorem Tu(p q:bO)(n:Int)(h:dQ p q):pC ([p,q],n,())=some ([p,q],n,()):=by
 obtain⟨k,hk⟩:=Ol
 unfold pC K2
 dsimp only
 rw[hk]
 unfold Aj BB
 simp only[rI,rJ,wy,wA,ww,wB,gp,gq,IP,IQ,nr,ns]
 rw[zT (by decide:(0:Int)<2),zC,zwj _ h.pm,zf,zwk p h.sp h.yw,zf]
 unfold Aj BB
 simp only[rI,rJ,wy,wA,ww,wB,gp,gq,IP,IQ,nr,ns]
 rw[zT (by decide:(1:Int)<2),zC,zwj _ h.qm,zf,zwk q h.sq h.yz,zf]
 unfold Aj BB
 rw[zF (by decide:¬(2:Int)<2),zD]
 rfl
theorem w0{R:Type}(x:Option R):zc 0 2 x=x:=zj (by omega) (by omega)
theorem w1{R:Type}(x:Option R):zc 1 2 x=x:=zj (by omega) (by omega)
theorem ga(a b:ze):List.getD ([a,b]:List ze) (0:Int).toNat ((0:Int),(0:Int),([]:List Spec),())=a:=rfl
structure acQ(s:bO):Prop where
 ka:(gN s.1).1=0
 act:bF s.1 39=true
 gA:∀c∈s.2.2.2.1,cz (bd s.1 39) c.2.1=0
 zero:(0:Int)∈s.2.2.2.1.map fun c=>c.1
structure Part(s:ze)(m:eb):Prop where
 head:gv m.1=true->iX m.1=s.2.1
 vZ:m.1.size<=1000
 len:m.2.1.length<=200
 iR:∀v∈m.2.1,bF s v.1=true/\cz (bd s v.1) v.2.1=0/\v.2.1.size<=999
theorem Part.ok{s:ze}{m:eb}(h:Part s m):iZ m:=⟨by have:=h.vZ;omega,by have:=h.len;omega,fun v hv=>by have:=(h.iR v hv).2.2;omega⟩
structure nC(p q:bO)(n:Int):Prop where
 n1:1<=n
 n2:n<=65535
 rp:(fg p).1=0
 rq:(fg q).1=0
 mp:(dj p.2.1 p.1 q.1).1=0
 mq:(dj q.2.1 q.1 p.1).1=0
theorem nC.symm{p q:bO}{n:Int}(h:nC p q n):nC q p n:=⟨h.n1,h.n2,h.rq,h.rp,h.mq,h.mp⟩
theorem dQ.symm{p q:bO}(h:dQ p q):dQ q p:=⟨h.sq,h.sp,h.qm,h.pm,h.yz,h.yw,h.qe,h.pe,h.qml,h.pml,h.RJ,h.RH⟩
theorem Yp{p q:bO}{n:Int}:(iQ p q n).1=0↔nC p q n:=by
 unfold iQ
 by_cases h1:n<1
 ·rw[zT h1];exact⟨fun h=>(by cases h),fun h=>by have:=h.n1;omega⟩
 by_cases h2:65535<n
 ·rw[zF h1,zT h2];exact⟨fun h=>(by cases h),fun h=>by have:=h.n2;omega⟩
 rw[zF h1,zF h2,zD,zD]
 by_cases h3:(fg p).1=0
 case neg=>rw[zF h3];exact⟨fun h=>absurd h h3,fun h=>absurd h.rp h3⟩
 rw[zT h3,Bool.not_true,zD]
 by_cases h4:(dj p.2.1 p.1 q.1).1=0
 case neg=>rw[zF h4];exact⟨fun h=>absurd h h4,fun h=>absurd h.mp h4⟩
 rw[zT h4,Bool.not_true,zD]
 by_cases h5:(fg q).1=0
 case neg=>rw[zF h5];exact⟨fun h=>absurd h h5,fun h=>absurd h.rq h5⟩
 rw[zT h5,Bool.not_true,zD]
 by_cases h6:(dj q.2.1 q.1 p.1).1=0
 case neg=>rw[zF h6];exact⟨fun h=>absurd h h6,fun h=>absurd h.mq h6⟩
 rw[zT h6]
 exact⟨fun _=>⟨by omega,by omega,h3,h5,h4,h6⟩,fun _=>rfl⟩
section
variable {p q:bO} {n:Int} (h:dQ p q) (h0:nC p q n)
include h h0
end
theorem zod(p q:bO)(n:Int)(h:dQ p q):nK ([p,q],n,())=some (decide ((iQ p q n).1=0)):=by
 unfold nK K4
 rw[SH p q n h,zf]
theorem aaH{c:As}(hc:Wf zwe c):∃p q n,c=([p,q],n,())/\∃g,nJ c=some g/\(g=false->dQ p q):=by
 obtain⟨p,q,e⟩:=Ws hc.1.1
 obtain⟨cl,n,u⟩:=c
 simp only[Prod.mk.injEq] at e
 obtain⟨rfl,_⟩:=e
 obtain⟨g,hg,fA⟩:=S4 (p:=p) (q:=q) hc
 exact⟨p,q,n,rfl,g,hg,fA⟩
end bA

namespace bA
open Go.IntKind renaming wrap->zW,i64->zI,u8->zU
open Go Go.Ref
theorem GK(m:Int):Cw m=some (if m<1\/65535<m then .inl 5 else .inr (0,(m,false,[],()))):=by
 unfold Cw NS
 by_cases h1:m<1
 ·simp [h1]
 ·by_cases h2:65535<m<;>simp [h1,h2]
def oj(m:Int)(l:List Int):Bool×List Int×List ByteArray:=l.foldl (DQ m) (false,[],[])
def DP(m:Int)(l:List Int):Fr:=(m,(oj m l).1,(oj m l).2.1,())
section
variable {m:Map} {a b:ze} {x:eb} {ys:List bP}
end
end bA

namespace bA
open Go.IntKind renaming wrap->zW,i64->zI,u8->zU
open Go Go.Ref
section
variable {p q:bO} {n:Int} (h:dQ p q) (h0:nC p q n)
include h
include h0
end
end bA

namespace bA
open Go.IntKind renaming wrap->zW,i64->zI,u8->zU
open Go Go.Ref
abbrev Gw:=As×(Option Fr×Option Fr)×Int
def yu(i:Int)(x:aW)(s:List aW)(K:List aW->Option (List aW×bO×bO)):Option (List aW×bO×bO):=
 bif(decide (x.2.2.2.2.1.length*32<=140737488355328)) then(bif(decide ((s.length+(List.length ([(x.1,x.2.1,x.2.2.1,x.2.2.2.1,x.2.2.2.2.1,())]:List aW)))*64<=140737488355328)) then K (s++ [(x.1,x.2.1,x.2.2.1,x.2.2.2.1,x.2.2.2.2.1,())]) else none) else none
theorem Gz(b1 b2:bO):∀(l:List aW) (i:Int) (s:List aW),(∀r∈l,dq r)->s.length+l.length<=1000000->cg yu (fun s=>some (s,b1,b2)) l i s=some (s++l,b1,b2)
 | [],i,s,_,_=>by rw[List.append_nil];rfl
 |x::l,i,s,h,hl=>by
  have hp:=(h x (by simp)).eC.len
  simp only[List.length_cons] at hl
  rw[cg,yu,zT (by omega),zC,zT (by simp only[List.length_cons,List.length_nil];omega),zC,Gz b1 b2 l (i+1) _ (fun r hr=>h r (by simp [hr])) (by simp;omega)]
  rw[List.append_assoc];rfl
theorem Ha(s:bO)(h:cR s)(hm:dG s.2.1)(h2:s.1.2.2.1.length<=200):CE s=some s:=by
 have he:=h.lU
 have hc:=h.gA
 have hl:=hm.len
 have ht:=hm.l6.len
 unfold CE N4
 rw[zT (by omega),zC,zT (by omega),zC,zT (by omega),zC,zT (by omega),zC]
 have:=eB ((0:Int),(0:Int),(0:Int),bs [],([]:List bq),()) s.2.1.2.1 (by rw[zk];omega) yu (fun l=>some (l,(s.1,s.2.1,s.2.2.1,s.2.2.2.1,()),nt))
  (fun k i l=>Ik k l s.2.1.2.1 (s.2.1.2.1.length:Int) i (s.1,s.2.1,s.2.2.1,s.2.2.2.1,()) nt) (fun k i l=>rfl) []
 dsimp only
 refine(congrArg (fun o=>Option.bind o _) (this.trans (Gz _ _ s.2.1.2.1 0 [] hm.rules (by simp;omega)))).trans ?_
 rw[zf,List.nil_append]
 unfold N5
 rw[zT (by show s.2.2.1.length*8<=_;omega),zC,zT (by show s.2.2.2.1.length*24<=_;omega),zC]
def gw(c:As)(n:Int)(x y:ByteArray)(d:Int):Gw:=(c,(some (DP n (bl x)),some (DP n (bl y))),d)
theorem WE(p q:bO)(n:Int)(h:dQ p q):uE ([p,q],n,())=some (if(iQ p q n).1=0 then .inr (0,gw ([p,q],n,()) n (bs []) (bs []) 0) else .inl 1):=by
 obtain⟨k,hk⟩:=Ol
 unfold uE N1
 rw[zyd p q n h,zf]
 by_cases h0:(iQ p q n).1=0
 case neg=>rw[zF h0,if_neg h0];rfl
 rw[zT h0,if_pos h0,Bool.not_true,zD,hk]
 have hc:=Yp.1 h0
 have hn:¬(n<1\/65535<n):=fun e=>by have:=hc.n1;have:=hc.n2;omega
 unfold Az BP
 simp only[rI,rJ,wy,wA,ww,wB,gp,gq,IP,IQ,nr,ns]
 rw[zT (by decide:(0:Int)<2),zC,Ha p h.sp h.pm h.yw,zf,GK,zf,if_neg hn,Sum.elim_inr]
 dsimp only
 unfold Az BP
 simp only[rI,rJ,wy,wA,ww,wB,gp,gq,IP,IQ,nr,ns]
 rw[zT (by decide:(1:Int)<2),zC,Ha q h.sq h.qm h.yz,zf,GK,zf,if_neg hn,Sum.elim_inr]
 dsimp only
 unfold Az BP
 rw[zF (by decide:¬(2:Int)<2),zD]
 rfl
theorem vX(k:Int):xA k=some (decide (k=0\/k=1)):=by
 unfold xA N2
 by_cases h:k=0
 ·simp [h]
 ·simp [h]
section
variable (p q:bO) (n:Int) (h:dQ p q)
include h
end
theorem Tw(c:As)(n:Int)(x y:ByteArray)(d k:Int):xy (gw c n x y d) k=some (if k=0 then((oj n (bl x)).2.1.length:Int) else if k=1 then((oj n (bl y)).2.1.length:Int) else 0,gw c n x y d):=by
 unfold xy NW
 rw[vX,zf]
 by_cases h0:k=0
 ·subst h0;rw[if_pos rfl,zT (.inl rfl),Bool.not_true,zD,rI];rfl
 by_cases h1:k=1
 ·subst h1;rw[if_neg h0,if_pos rfl,zT (.inr rfl),Bool.not_true,zD,rJ];rfl
 ·rw[if_neg h0,if_neg h1,zF (fun e=>e.elim h0 h1)];rfl
theorem Tv(c:As)(n:Int)(x y:ByteArray)(d k:Int):ss (gw c n x y d) k=some (if k=0 then(oj n (bl x)).1 else if k=1 then(oj n (bl y)).1 else false,gw c n x y d):=by
 unfold ss NT
 rw[vX,zf]
 by_cases h0:k=0
 ·subst h0;rw[if_pos rfl,zT (.inl rfl),zC,rI];rfl
 by_cases h1:k=1
 ·subst h1;rw[if_neg h0,if_pos rfl,zT (.inr rfl),zC,rJ];rfl
 ·rw[if_neg h0,if_neg h1,zF (fun e=>e.elim h0 h1)];rfl
theorem zyj(g:Gw):AH g=some (g.2.2,g):=rfl
theorem aaG:AJ=some true:=by kernel_rfl
theorem hD(c:As)(hc:Wf zwe c):CG c=some true:=by
 obtain⟨p,q,n,rfl,g,hg,fA⟩:=aaH hc
 unfold CG N6
 rw[aaG,zf,Bool.not_true,zD,hg,zf]
 cases g with
 |true=>rfl
 |false=>
  have h:=fA rfl
  rw[zD,Tu p q n h,zf,WE p q n h,zf]
  by_cases h0:(iQ p q n).1=0
  ·rw[if_pos h0,Sum.elim_inr,zod p q n h,zf,zT h0,zC]
   dsimp only
   rw[zT rfl,zC,zyj,zf]
   dsimp only
   rw[show(gw ([p,q],n,()) n (bs []) (bs []) 0).2.2=0 from rfl,zT rfl,zC,Tw,zf,if_pos rfl]
   dsimp only
   rw[Tv,zf]
   rfl
  ·rw[if_neg h0,Sum.elim_inl,zod p q n h,zf,zF h0]
   rfl
end bA

