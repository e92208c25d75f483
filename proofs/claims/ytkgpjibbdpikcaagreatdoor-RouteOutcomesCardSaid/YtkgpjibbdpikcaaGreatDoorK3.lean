/- No condition. -/
import Derived.Test.YtkgpjibbdpikcaaGreatDoorK2
set_option linter.unusedVariables false
set_option linter.unusedSimpArgs false
set_option maxRecDepth 100000
namespace bF
open Go.IntKind renaming wrap->zW,i64->zI,u8->zU
open Go Go.Ref
def dg:List Int->List Int
 |a::b::r=>(16*(a-48)+(b-48))::dg r
 |_=>[]
def mX(s:ByteArray):ByteArray×Bool:=
 bif decide (s.size<=999/\bh (bl s)=true) then(strOf (dg (if s.size % 2=1 then 48::bl s else bl s)),true) else(bs [],false)
def cY(odd:Bool):List Int->Nat->Option (Int×Int)
 | [],_=>none
 |x::r,i=>if i=0/\odd=true/\x/16≠0 then some (4,0) else if 9<x/16\/9<x % 16 then some (3,i) else cY odd r (i+1)
def df:List Int->List Int
 | []=>[]
 |x::r=>(48+x/16)::(48+x % 16)::df r
def iL(b:ByteArray)(n:Int):ByteArray×Int×Int:=
 if n<0\/999<n then(bs [],1,0) else if(b.size:Int)<(n+1)/2 then(bs [],2,(b.size:Int)) else
 match cY (decide (n % 2=1)) ((bl b).take ((n+1)/2).toNat) 0 with
 |some e=>(bs [],e.1,e.2)
 |none=>(strOf ((df ((bl b).take ((n+1)/2).toNat)).drop (n % 2).toNat),0,0)
theorem akO:∀a b:Fin 10,aM .or .u8 (zW zU ((zW zU ((48+(a.1:Int))-48))*2^min ((4:Int)).toNat 8)) (zW zU ((48+(b.1:Int))-48))=16*(a.1:Int)+(b.1:Int):=by decide+kernel
theorem PQ{x:Int}(h:bX x=true):∃k:Fin 10,x=48+(k.1:Int):=by
 unfold bX at h
 simp only[Bool.and_eq_true,decide_eq_true_eq] at h
 exact⟨⟨(x-48).toNat,by omega⟩,by simp;omega⟩
theorem aai{x y:Int}(hx:bX x=true)(hy:bX y=true):aM .or .u8 (zW zU ((zW zU (x-48))*2^min ((4:Int)).toNat 8)) (zW zU (y-48))=16*(x-48)+(y-48):=by
 obtain⟨a,rfl⟩:=PQ hx
 obtain⟨b,rfl⟩:=PQ hy
 have:=akO a b
 rw[this];omega
theorem zav(s:ByteArray)(hs:s.size<=1099511627776)(hev:s.size % 2=0)(hd:bh (bl s)=true):∀(n j k:Nat) (o:List Int),j+2*n=s.size->n<k->o.length+n<=35184372088832->jm k s o (j:Int)=some (o++dg ((bl s).drop j))
 |n,j,0,o,_,hk,_=>by omega
 |0,j,k+1,o,hj,hk,_=>by
  unfold jm lV
  rw[zF (by omega),zD,List.drop_eq_nil_of_le (by rw[zg];omega),dg,List.append_nil]
  exact fun _ _ _ h=>by cases h
 |n+1,j,k+1,o,hj,hk,ho=>by
  have aq:j<s.size:=by omega
  have nF:j+1<s.size:=by omega
  have hl:j<(bl s).length:=by rw[zg];exact aq
  have nD:j+1<(bl s).length:=by rw[zg];exact nF
  have d1:=List.all_eq_true.1 hd _ (List.getElem_mem hl)
  have d2:=List.all_eq_true.1 hd _ (List.getElem_mem nD)
  have e:zW zI ((j:Int)+2)=((j+2:Nat):Int):=by rw[zi (by omega) (by omega)];omega
  unfold jm lV
  rw[zT (by omega),zC,zh aq,zo (by omega),zh nF,Int.toNat_natCast,Int.toNat_natCast,qZ hl,qZ nD,aai d1 d2,zT (by simp only[List.length_singleton];omega),zC,e]
  dsimp only
  rw[zav s hs hev hd n (j+2) k _ (by omega) (by omega) (by rw[List.length_append,List.length_singleton];omega),List.drop_eq_getElem_cons hl,List.drop_eq_getElem_cons nD,dg,List.append_assoc]
  rfl
theorem aaj:bl (bs [48])=[48]:=by decide
theorem zj0(s:ByteArray)(hs:s.size<=maxLen):Q1 s=some (mX s):=by
 unfold Q1 kn mX
 by_cases h1:(999:Int)<(s.size:Int)
 ·rw[zT h1,zC,zF (by omega)];rfl
 ·rw[zF h1,zD,Ym s hs,zc]
  cases hd:bh (bl s) with
  |false=>rw[zF (p:=s.size<=999/\false=true) (fun h=>by cases h.2)];rfl
  |true=>
   rw[Bool.not_true,zD,zT (⟨by omega,rfl⟩:s.size<=999/\true=true),zC,u7]
   by_cases hp:s.size % 2=1
   ·have dt:(bs [48]++s).size=s.size+1:=by rw[ByteArray.size_append];show 1+s.size=_;omega
    have hb:bl (bs [48]++s)=48::bl s:=by rw[z28,aaj];rfl
    rw[if_pos hp,zF (by omega),Bool.not_false,zC,zT (by show 1+s.size<=_;omega),zC,dt]
    have e:Int.tdiv ((s.size+1:Nat):Int) 2=(((s.size+1)/2:Nat):Int):=rfl
    rw[e,zi (by omega) (by omega),zT (by omega),zC,zT (by omega),zC]
    have:=zav (bs [48]++s) (by omega) (by omega) (by rw[hb];show(bX 48&&bh (bl s))=true;rw[hd];rfl) ((s.size+1)/2) 0 ah [] (by omega) (by rw[zn];omega) (by simp;omega)
    rw[show((0:Nat):Int)=0 from rfl,List.drop_zero,List.nil_append,hb] at this
    dsimp only
    rw[this];rfl
   ·rw[if_neg hp,zT (by omega),Bool.not_true,zD]
    have e:Int.tdiv ((s.size:Nat):Int) 2=((s.size/2:Nat):Int):=rfl
    rw[e,zi (by omega) (by omega),zT (by omega),zC,zT (by omega),zC]
    have:=zav s (by omega) (by omega) hd (s.size/2) 0 ah [] (by omega) (by rw[zn];omega) (by simp;omega)
    rw[show((0:Nat):Int)=0 from rfl,List.drop_zero,List.nil_append] at this
    dsimp only
    rw[this];rfl
theorem Rp(n:Int)(h0:0<=n)(h1:n<=999):Q2 n=some ((n+1)/2):=by
 unfold Q2 oe
 obtain⟨m,rfl⟩:∃m:Nat,n=m:=⟨n.toNat,by omega⟩
 by_cases h:(m:Int)<1
 ·rw[zT h,zC]
  congr 1
  omega
 ·rw[zF h,zD,u7]
  have e:Int.tdiv (m:Int) 2=((m/2:Nat):Int):=rfl
  have e2:zW zI ((m/2:Nat):Int)=((m/2:Nat):Int):=zi (by omega) (by omega)
  rw[e,e2,zi (by omega) (by omega)]
  congr 1
  omega
theorem alw:∀d:Fin 16,d.1<=9->zW zU ((48:Int)+(d.1:Int))=48+(d.1:Int):=by decide+kernel
theorem qQ{d:Nat}(h:d<=9):zW zU ((48:Int)+(d:Int))=48+(d:Int):=alw ⟨d,by omega⟩ h
theorem zqo(b:ByteArray)(hb0:b.size<=1099511627776)(nn:Nat)(hn:nn<=999)(m:Nat)(hm:m<=b.size):∀(n j k:Nat) (o:List Int),j+n=m->n<k->o.length+2*n<=35184372088832->∃o',iq k b (nn:Int) o (m:Int) (j:Int)=some (match cY (decide (nn % 2=1)) (((bl b).take m).drop j) j with
 |some e=> .inl ((nn:Int),bs [],e.1,e.2,o')
 |none=> .inr ((nn:Int),o++df (((bl b).take m).drop j)))
 |n,j,0,o,_,hk,_=>by omega
 |0,j,k+1,o,hj,hk,_=>by
  unfold iq lP
  rw[zF (by omega),zD,List.drop_eq_nil_of_le (by rw[List.length_take,zg];omega)]
  exact⟨o,by simp [cY,df]⟩
 |n+1,j,k+1,o,hj,hk,ho=>by
  have aq:j<b.size:=by omega
  have hl:j<(bl b).length:=by rw[zg];exact aq
  have Lq:j<((bl b).take m).length:=by rw[List.length_take];omega
  obtain⟨x,hx,_,_⟩:=LY (im (List.getElem_mem hl))
  have rD:=x.2
  have ih:=zqo b hb0 nn hn m hm n (j+1) k (o++ [48+((x.1/16:Nat):Int),48+((x.1 % 16:Nat):Int)]) (by omega) (by omega) (by rw[List.length_append];simp only[List.length_cons,List.length_nil];omega)
  have hw:∀{R:Type} (z:Option R),zd (j:Int) b.size z=z:=fun z=>zh aq
  have fR:((bl b).take m).drop j=(x.1:Int)::((bl b).take m).drop (j+1):=by rw[List.drop_eq_getElem_cons Lq,List.getElem_take,hx]
  rw[fR,cY,df]
  unfold iq lP
  simp only[hw,Int.toNat_natCast,qZ hl,hx,(rK x).1,(rK x).2.1,u7]
  rw[zT (by omega:(j:Int)<(m:Int)),zC]
  have K7:(x.1:Int)/16=((x.1/16:Nat):Int):=by omega
  have K8:(x.1:Int)% 16=((x.1 % 16:Nat):Int):=by omega
  rw[K7,K8]
  have plain:∀(Z:Option (Sum (Int×ByteArray×Int×Int×List Int) (Int×List Int))),Z=(bif decide ((9:Int)<((x.1/16:Nat):Int)) then some (.inl ((nn:Int),bs [],(3:Int),(j:Int),o)) else bif decide ((9:Int)<((x.1 % 16:Nat):Int)) then some (.inl ((nn:Int),bs [],(3:Int),(j:Int),o)) else(bif decide ((o.length+(List.length ([zW zU (48+((x.1/16:Nat):Int)),zW zU (48+((x.1 % 16:Nat):Int))]:List Int)))*1<=140737488355328) then iq k b (nn:Int) (o++ [zW zU (48+((x.1/16:Nat):Int)),zW zU (48+((x.1 % 16:Nat):Int))]) (m:Int) (zW zI ((j:Int)+1)) else none))->
   ∃o',Z=some (match(if 9<((x.1/16:Nat):Int)\/9<((x.1 % 16:Nat):Int) then some ((3:Int),(j:Int)) else cY (decide (nn % 2=1)) (((bl b).take m).drop (j+1)) (j+1)) with
    |some e=> .inl ((nn:Int),bs [],e.1,e.2,o')
    |none=> .inr ((nn:Int),o++(48+((x.1/16:Nat):Int))::(48+((x.1 % 16:Nat):Int))::df (((bl b).take m).drop (j+1)))):=fun Z hZ=>by
   rw[hZ]
   by_cases c1:(9:Int)<((x.1/16:Nat):Int)
   ·rw[zT c1,if_pos (.inl c1)]
    exact⟨o,rfl⟩
   ·by_cases c2:(9:Int)<((x.1 % 16:Nat):Int)
    ·rw[zF c1,zD,zT c2,if_pos (.inr c2)]
     exact⟨o,rfl⟩
    ·rw[zF c1,zD,zF c2,zD,if_neg (fun h=>h.elim c1 c2),qQ (by omega),qQ (by omega),zT (by simp only[List.length_cons,List.length_nil];omega),zC,zo (by omega)]
     obtain⟨o',h⟩:=ih
     refine⟨o',h.trans ?_⟩
     rw[List.append_assoc]
     rfl
  by_cases j0:j=0
  ·subst j0
   rw[zT (by omega:((0:Nat):Int)=0),zC]
   by_cases hp:nn % 2=1
   ·rw[zT hp,zF (by omega:¬((nn % 2:Nat):Int)=0),Bool.not_false,zC]
    by_cases hz:x.1/16=0
    ·rw[if_neg (by omega),zT (by omega),Bool.not_true,zD]
     have:=plain _ rfl
     rw[zT hp] at this
     exact this
    ·rw[if_pos (by simp;omega),zF (by omega),Bool.not_false,zC]
     exact⟨o,rfl⟩
   ·rw[zF hp,zT (by omega:((nn % 2:Nat):Int)=0),Bool.not_true,zD,if_neg (by simp)]
    have:=plain _ rfl
    rw[zF hp] at this
    exact this
  ·rw[zF (by omega:¬(j:Int)=0),zD,if_neg (by omega)]
   exact plain _ rfl
theorem ziz(b:ByteArray)(n:Int)(hb:b.size<=1099511627776):Q0 b n=some (iL b n):=by
 unfold Q0 n4 iL
 by_cases h0:n<0
 ·rw[zT h0,if_pos (.inl h0)];rfl
 ·rw[zF h0,zD]
  by_cases h1:999<n
  ·rw[zT h1,if_pos (.inr h1)];rfl
  ·rw[zF h1,zD,if_neg (fun h=>h.elim h0 h1),Rp n (by omega) (by omega),zc]
   by_cases h2:(b.size:Int)<(n+1)/2
   ·rw[zT h2,if_pos h2];rfl
   ·rw[zF h2,zD,if_neg h2,zi (by omega) (by omega),zT (by omega),zC,zT (by omega),zC,zc]
    obtain⟨nn,rfl⟩:∃nn:Nat,n=nn:=⟨n.toNat,by omega⟩
    have em:((nn:Int)+1)/2=(((nn+1)/2:Nat):Int):=by omega
    have ep:((nn:Int)% 2).toNat=nn % 2:=by omega
    have eo:decide ((nn:Int)% 2=1)=decide (nn % 2=1):=decide_eq_decide.2 (by omega)
    rw[em,Int.toNat_natCast,eo,ep]
    obtain⟨o',h⟩:=zqo b hb nn (by omega) ((nn+1)/2) (by omega) ((nn+1)/2) 0 ah [] (by omega) (by rw[zn];omega) (by simp;omega)
    rw[show((0:Nat):Int)=0 from rfl,List.drop_zero,List.nil_append] at h
    dsimp only
    rw[h,zc]
    cases cY (decide (nn % 2=1)) ((bl b).take ((nn+1)/2)) 0 with
    |some e=>rfl
    |none=>
     dsimp only
     rw[Sum.elim_inr]
     unfold n5
     dsimp only
     rw[u7,zT (by omega),zC]
     have hlen:∀l:List Int,(df l).length=2*l.length:=fun l=>by
      induction l with
      |nil=>rfl
      |cons x r ih=>rw[df,List.length_cons,List.length_cons,ih,List.length_cons];omega
     rw[zT (by rw[hlen,List.length_take,zg];omega),zC,Int.toNat_natCast,List.take_length]
theorem BG(j:Nat):Int.tdiv (j:Int) (2:Int)=((j/2:Nat):Int):=rfl
theorem aeo(b:ByteArray)(hb:b.size<=1099511627776)(m:Nat)(hm:m<=b.size)(Ae:m<=500)(K:Nat)(t:ByteArray)(ht:t.size<=1000){j:Nat}(hj:j<m)(x:Fin 256)(hx:ze b j=(x.1:Int)):
 nW (K+1) b (m:Int) t ((2*j:Nat):Int)=(if 9<x.1/16 then some (.inl (bs [],(3:Int),(j:Int),t)) else nW K b (m:Int) (t++strOf [48+((x.1/16:Nat):Int)]) ((2*j+1:Nat):Int)):=by
 have rD:=x.2
 have e1:zW zI ((2:Int)*(m:Int))=((2*m:Nat):Int):=by rw[zi (by omega) (by omega)];omega
 have e2:zW zI (((2*j)/2:Nat):Int)=(j:Int):=by rw[zi (by omega) (by omega)];omega
 conv=>lhs;unfold nW Hl
 simp only[e1,BG,e2,u7,Int.toNat_natCast,hx,(rK x).2.2.1,(rK x).2.2.2]
 have hw:∀{R:Type} (z:Option R),zd (j:Int) b.size z=z:=fun z=>zh (by omega)
 simp only[hw]
 rw[zT (by omega),zC,zF (by omega:¬((2*j:Nat):Int)=1),zD,zF (by omega:¬(((2*j)% 2:Nat):Int)=1),zD]
 by_cases h:9<x.1/16
 ·rw[if_pos h,zT (by omega)];rfl
 ·rw[if_neg h,zF (by omega),zD,qQ (by omega),zT (by rw[lL];simp only[List.length_singleton];omega),zC,zo (by omega)]
theorem ahs(b:ByteArray)(hb:b.size<=1099511627776)(m:Nat)(hm:m<=b.size)(Ae:m<=500)(K:Nat)(t:ByteArray)(ht:t.size<=1000){j:Nat}(hj:j<m)(x:Fin 256)(hx:ze b j=(x.1:Int))(ct:¬(j=0/\t=bs [])):
 nW (K+1) b (m:Int) t ((2*j+1:Nat):Int)=(if 9<x.1 % 16 then some (.inl (bs [],(3:Int),(j:Int),t)) else nW K b (m:Int) (t++strOf [48+((x.1 % 16:Nat):Int)]) ((2*(j+1):Nat):Int)):=by
 have rD:=x.2
 have e1:zW zI ((2:Int)*(m:Int))=((2*m:Nat):Int):=by rw[zi (by omega) (by omega)];omega
 have e2:zW zI (((2*j+1)/2:Nat):Int)=(j:Int):=by rw[zi (by omega) (by omega)];omega
 have e3:zW zI (((2*j+1:Nat):Int)+1)=((2*(j+1):Nat):Int):=by rw[zi (by omega) (by omega)];omega
 conv=>lhs;unfold nW Hl
 simp only[e1,BG,e2,e3,u7,Int.toNat_natCast,hx,(rK x).2.2.1,(rK x).2.2.2]
 have hw:∀{R:Type} (z:Option R),zd (j:Int) b.size z=z:=fun z=>zh (by omega)
 simp only[hw]
 rw[zT (by omega),zC]
 have LA:decide ((((2*j+1)% 2:Nat):Int)=1)=true:=zT (by omega)
 by_cases hj0:j=0
 ·have htn:¬t=bs []:=fun e=>ct ⟨hj0,e⟩
  rw[zT (by omega:((2*j+1:Nat):Int)=1),zC,zF htn,zD,LA,zC]
  by_cases h:9<x.1 % 16
  ·rw[if_pos h,zT (by omega)];rfl
  ·rw[if_neg h,zF (by omega),zD,qQ (by omega),zT (by rw[lL];simp only[List.length_singleton];omega),zC]
 ·rw[zF (by omega:¬((2*j+1:Nat):Int)=1),zD,LA,zC]
  by_cases h:9<x.1 % 16
  ·rw[if_pos h,zT (by omega)];rfl
  ·rw[if_neg h,zF (by omega),zD,qQ (by omega),zT (by rw[lL];simp only[List.length_singleton];omega),zC]
theorem adE(b:ByteArray)(hb:b.size<=1099511627776)(m:Nat)(hm:m<=b.size)(Ae:m<=500)(K:Nat)(h0:0<m)(x:Fin 256)(hx:ze b 0=(x.1:Int)):
 nW (K+1) b (m:Int) (bs []) (1:Int)=(if x.1/16≠0 then some (.inl (bs [],(4:Int),(0:Int),bs [])) else if 9<x.1 % 16 then some (.inl (bs [],(3:Int),(0:Int),bs [])) else nW K b (m:Int) (bs []++strOf [48+((x.1 % 16:Nat):Int)]) (2:Int)):=by
 have rD:=x.2
 have e1:zW zI ((2:Int)*(m:Int))=((2*m:Nat):Int):=by rw[zi (by omega) (by omega)];omega
 have e2:zW zI (Int.tdiv (1:Int) 2)=0:=by decide
 have e3:zW zI ((1:Int)+1)=2:=by decide
 have e4:Int.tmod (1:Int) 2=1:=by decide
 conv=>lhs;unfold nW Hl
 simp only[e1,e2,e3,e4,show((0:Int)).toNat=0 from rfl,hx,(rK x).2.2.1,(rK x).2.2.2]
 have hw:∀{R:Type} (z:Option R),zd (0:Int) b.size z=z:=fun z=>zl (by omega) (by omega)
 simp only[hw]
 rw[zT (by omega),zC]
 simp only[decide_true,zC]
 by_cases hz:x.1/16=0
 ·rw[if_neg (fun h=>h hz),zT (by omega),Bool.not_true,zD]
  by_cases h:9<x.1 % 16
  ·rw[if_pos h,zT (by omega)];rfl
  ·rw[if_neg h,zF (by omega),zD,qQ (by omega),zT (by rw[lL];simp only[List.length_singleton];show 0+1<=_;omega),zC]
 ·rw[if_pos hz,zF (by omega)];rfl
theorem ah6(t:ByteArray)(a b:Int):t++strOf [a]++strOf [b]=t++strOf [a,b]:=by
 rw[ByteArray.append_assoc,<-T3];rfl
theorem zt1:∀(l:List Int) (i:Nat) (o1 o2:Bool),0<i->cY o1 l i=cY o2 l i
 | [],i,o1,o2,_=>rfl
 |y::r,i,o1,o2,hi=>by
  have e:∀o,cY o (y::r) i=if 9<y/16\/9<y % 16 then some (3,(i:Int)) else cY o r (i+1):=fun o=>by rw[cY,if_neg (fun h=>absurd h.1 (by omega))]
  rw[e,e,zt1 r (i+1) o1 o2 (by omega)]
theorem zem(b:ByteArray)(hb:b.size<=1099511627776)(m:Nat)(hm:m<=b.size)(Ae:m<=500)(odd:Bool):∀(n j K:Nat) (t:ByteArray),j+n=m->2*n<K->t.size+2*n<=1000->((odd=true\/t≠bs [])->0<j)->∃o',nW K b (m:Int) t ((2*j:Nat):Int)=some (match cY (odd&&decide (0<j)) (((bl b).take m).drop j) j with
 |some e=> .inl (bs [],e.1,e.2,o')
 |none=> .inr (t++strOf (df (((bl b).take m).drop j))))
 |n,j,0,t,_,hk,_,_=>by omega
 |0,j,K+1,t,hj,hk,ht,h0=>by
  have e1:zW zI ((2:Int)*(m:Int))=((2*m:Nat):Int):=by rw[zi (by omega) (by omega)];omega
  unfold nW Hl
  rw[e1,zF (by omega),zD,List.drop_eq_nil_of_le (by rw[List.length_take,zg];omega)]
  exact⟨t,by simp only[cY,df];congr 2;apply vi;rw[z28];simp [bl,strOf]⟩
 |n+1,j,1,t,hj,hk,ht,h0=>by omega
 |n+1,j,K+2,t,hj,hk,ht,h0=>by
  have aq:j<b.size:=by omega
  have hl:j<(bl b).length:=by rw[zg];exact aq
  have Lq:j<((bl b).take m).length:=by rw[List.length_take];omega
  obtain⟨x,hx,_,_⟩:=LY (im (List.getElem_mem hl))
  have rD:=x.2
  have TE:ze b j=(x.1:Int):=by rw[qZ hl,hx]
  have fR:((bl b).take m).drop j=(x.1:Int)::((bl b).take m).drop (j+1):=by rw[List.drop_eq_getElem_cons Lq,List.getElem_take,hx]
  have K7:(x.1:Int)/16=((x.1/16:Nat):Int):=by omega
  have K8:(x.1:Int)% 16=((x.1 % 16:Nat):Int):=by omega
  rw[aeo b hb m hm Ae (K+1) t (by omega) (by omega) x TE,fR,cY,df,K7,K8]
  have BV:¬(j=0/\(odd&&decide (0<j))=true/\((x.1/16:Nat):Int)≠0):=by
   rintro⟨h1,h2,_⟩
   rw[h1] at h2
   simp at h2
  rw[if_neg BV]
  by_cases h:9<x.1/16
  ·rw[if_pos h,if_pos (.inl (by omega))]
   exact⟨t,rfl⟩
  ·rw[if_neg h,ahs b hb m hm Ae K _ (by rw[ByteArray.size_append,lL];simp only[List.length_singleton];omega) (by omega) x TE (fun e=>by
    have:=congrArg ByteArray.size e.2
    rw[ByteArray.size_append,lL] at this
    simp only[List.length_singleton] at this
    have h0:(bs []).size=0:=rfl
    omega)]
   by_cases h2:9<x.1 % 16
   ·rw[if_pos h2,if_pos (.inr (by omega))]
    exact⟨_,rfl⟩
   ·rw[if_neg h2,if_neg (by omega),ah6]
    obtain⟨o',ih⟩:=zem b hb m hm Ae odd n (j+1) K (t++strOf [48+((x.1/16:Nat):Int),48+((x.1 % 16:Nat):Int)]) (by omega) (by omega) (by rw[ByteArray.size_append,lL];simp only[List.length_cons,List.length_nil];omega) (fun _=>by omega)
    refine⟨o',ih.trans ?_⟩
    have hE:cY (odd&&decide (0<j+1)) (((bl b).take m).drop (j+1)) (j+1)=cY (odd&&decide (0<j)) (((bl b).take m).drop (j+1)) (j+1):=by
     exact zt1 _ _ _ _ (by omega)
    rw[hE,ByteArray.append_assoc,<-T3]
    rfl
theorem zrm(b:ByteArray)(n:Int)(hb:b.size<=1099511627776):rl b n=some (iL b n):=by
 unfold rl Z4 iL
 by_cases h0:n<0
 ·rw[zT h0,if_pos (.inl h0)];rfl
 ·rw[zF h0,zD]
  by_cases h1:999<n
  ·rw[zT h1,if_pos (.inr h1)];rfl
  ·rw[zF h1,zD,if_neg (fun h=>h.elim h0 h1)]
   obtain⟨nn,rfl⟩:∃nn:Nat,n=nn:=⟨n.toNat,by omega⟩
   have ew:zW zI ((nn:Int)+1)=((nn+1:Nat):Int):=by rw[zi (by omega) (by omega)];omega
   have ew2:zW zI (((nn+1)/2:Nat):Int)=(((nn+1)/2:Nat):Int):=zi (by omega) (by omega)
   have em:((nn:Int)+1)/2=(((nn+1)/2:Nat):Int):=by omega
   have ep:((nn:Int)% 2).toNat=nn % 2:=by omega
   have eo:decide ((nn:Int)% 2=1)=decide (nn % 2=1):=decide_eq_decide.2 (by omega)
   rw[ew,BG,ew2,em,Int.toNat_natCast,eo,ep]
   generalize B6:(nn+1)/2=m
   by_cases h2:(b.size:Int)<(m:Int)
   ·rw[zT h2,if_pos h2];rfl
   ·rw[zF h2,zD,if_neg h2]
    have e2m:zW zI ((2:Int)*(m:Int))=((2*m:Nat):Int):=by rw[zi (by omega) (by omega)];omega
    rw[e2m]
    dsimp only
    by_cases hp:nn % 2=1
    ·have es:zW zI (((2*m:Nat):Int)-(nn:Int))=1:=by rw[zi (by omega) (by omega)];omega
     rw[es,zT hp]
     have hl:0<(bl b).length:=by rw[zg];omega
     have Lq:0<((bl b).take m).length:=by rw[List.length_take];omega
     obtain⟨x,hx,_,_⟩:=LY (im (List.getElem_mem hl))
     have rD:=x.2
     have TE:ze b 0=(x.1:Int):=by rw[qZ hl,hx]
     have fR:(bl b).take m=(x.1:Int)::((bl b).take m).drop 1:=by
      have:=List.drop_eq_getElem_cons Lq
      rw[List.drop_zero,List.getElem_take,hx] at this
      exact this
     have K7:(x.1:Int)/16=((x.1/16:Nat):Int):=by omega
     have K8:(x.1:Int)% 16=((x.1 % 16:Nat):Int):=by omega
     obtain⟨K,hK⟩:∃K,ah=K+1:=⟨ah-1,by rw[zn]⟩
     rw[hK,adE b hb m (by omega) (by omega) K (by omega) x TE,fR,cY,df,K7,K8]
     by_cases hz:x.1/16=0
     ·have hz1:¬((0:Nat)=0/\true=true/\((x.1/16:Nat):Int)≠0):=by simp;omega
      rw[if_neg (fun h=>h hz),if_neg hz1]
      by_cases h9:9<x.1 % 16
      ·rw[if_pos h9,if_pos (.inr (by omega))];rfl
      ·rw[if_neg h9,if_neg (by omega)]
       have LR:(bs []++strOf [48+((x.1 % 16:Nat):Int)]).size=1:=by rw[ByteArray.size_append,lL];rfl
       obtain⟨o',ih⟩:=zem b hb m (by omega) (by omega) true (m-1) 1 K (bs []++strOf [48+((x.1 % 16:Nat):Int)]) (by omega) (by rw[zn] at hK;omega) (by rw[LR];omega) (fun _=>by omega)
       rw[show((2*1:Nat):Int)=2 from rfl] at ih
       rw[ih,zc,zt1 _ 1 (true&&decide (0<1)) true (by omega)]
       cases cY true (((bl b).take m).drop 1) 1 with
       |some e=>rfl
       |none=>
        dsimp only
        rw[Sum.elim_inr]
        unfold S0
        rw[hp]
        congr 2
     ·rw[if_pos hz,if_pos ⟨rfl,rfl,by omega⟩];rfl
    ·have es:zW zI (((2*m:Nat):Int)-(nn:Int))=((2*0:Nat):Int):=by rw[zi (by omega) (by omega)];omega
     rw[es,zF hp]
     obtain⟨o',ih⟩:=zem b hb m (by omega) (by omega) false m 0 ah (bs []) (by omega) (by rw[zn];omega) (by show 0+_<=_;omega) (fun h=>by rcases h with h|h;cases h;exact absurd rfl h)
     rw[ih,zc,List.drop_zero,show(false&&decide (0<0))=false from rfl]
     cases cY false ((bl b).take m) 0 with
     |some e=>rfl
     |none=>
      dsimp only
      rw[Sum.elim_inr]
      unfold S0
      rw[show nn % 2=0 by omega,List.drop_zero]
      congr 2
theorem qW{a:Int}{l:List Int}:bh (a::l)=true↔bX a=true/\bh l=true:=by
 rw[zix,Bool.and_eq_true]
theorem qV{a:Int}:bX a=true↔48<=a/\a<=57:=by
 unfold bX
 rw[decide_eq_true_eq]
theorem zt3:∀l:List Int,(dg l).length=l.length/2
 | []=>rfl
 | [a]=>by simp [dg]
 |a::b::r=>by rw[dg,List.length_cons,zt3 r,List.length_cons,List.length_cons];omega
theorem zt2:∀l:List Int,(df l).length=2*l.length
 | []=>rfl
 |x::r=>by rw[df,List.length_cons,List.length_cons,zt2 r,List.length_cons];omega
theorem Mx:∀{l:List Int},bh l=true->∀y∈dg l,zq y
 | [],_,y,hy=>by simp [dg] at hy
 | [a],_,y,hy=>by simp [dg] at hy
 |a::b::r,h,y,hy=>by
  obtain⟨h1,h2⟩:=qW.1 h
  obtain⟨h2,h3⟩:=qW.1 h2
  rw[qV] at h1 h2
  rw[dg] at hy
  rcases List.mem_cons.1 hy with rfl|hy
  ·unfold zq;omega
  ·exact Mx h3 y hy
theorem zJ:∀{l:List Int},l.length % 2=0->bh l=true->df (dg l)=l
 | [],_,_=>by simp [dg,df]
 | [a],h,_=>by simp at h
 |a::b::r,h,hd=>by
  obtain⟨h1,h2⟩:=qW.1 hd
  obtain⟨h2,h3⟩:=qW.1 h2
  rw[qV] at h1 h2
  rw[dg,df,zJ (by simp only[List.length_cons] at h;omega) h3,show 48+(16*(a-48)+(b-48))/16=a by omega,show 48+(16*(a-48)+(b-48))% 16=b by omega]
theorem zH(odd:Bool):∀{l:List Int} {i:Nat},l.length % 2=0->bh l=true->(i=0->odd=true->l.getD 0 48=48)->cY odd (dg l) i=none
 | [],_,_,_,_=>by simp [dg,cY]
 | [a],_,h,_,_=>by simp at h
 |a::b::r,i,h,hd,ho=>by
  obtain⟨h1,h2⟩:=qW.1 hd
  obtain⟨h2,h3⟩:=qW.1 h2
  rw[qV] at h1 h2
  rw[dg,cY,if_neg,if_neg (by omega)]
  ·exact zH odd (by simp only[List.length_cons] at h;omega) h3 fun hi=>by omega
  ·rintro⟨e1,e2,e3⟩
   have:a=48:=ho e1 e2
   omega
def gH(s:ByteArray):List Int:=if s.size % 2=1 then 48::bl s else bl s
theorem My(s:ByteArray):(gH s).length % 2=0:=by
 unfold gH
 split
 ·rw[List.length_cons,zg];omega
 ·rw[zg];omega
theorem NV(s:ByteArray):(gH s).length/2=(s.size+1)/2:=by
 unfold gH
 split
 ·rw[List.length_cons,zg]
 ·rw[zg];omega
theorem zt4{s:ByteArray}(h:bh (bl s)=true):bh (gH s)=true:=by
 unfold gH
 split
 ·exact qW.2 ⟨rfl,h⟩
 ·exact h
theorem zj2{s:ByteArray}(h:s.size<=999)(hd:bh (bl s)=true):mX s=(strOf (dg (gH s)),true):=by
 unfold mX gH
 rw[zT ⟨h,hd⟩,zC]
theorem zaw{s:ByteArray}(h:s.size<=999)(hd:bh (bl s)=true):(mX s).1.size=(s.size+1)/2:=by
 rw[zj2 h hd]
 show(strOf _).size=_
 rw[lL,zt3,NV]
theorem akP{s:ByteArray}(h:s.size<=999)(hd:bh (bl s)=true):iL (mX s).1 (s.size:Int)=(s,0,0):=by
 have dt:=zaw h hd
 have hb:bl (mX s).1=dg (gH s):=by rw[zj2 h hd];exact rF (Mx (zt4 hd))
 unfold iL
 rw[if_neg (by omega),if_neg (by rw[dt];omega),hb,List.take_of_length_le (by rw[zt3,NV];omega),zH _ (My s) (zt4 hd),zJ (My s) (zt4 hd)]
 ·dsimp only
  by_cases hp:s.size % 2=1
  ·rw[show((s.size:Int)% 2).toNat=1 by omega]
   unfold gH
   rw[if_pos hp,List.drop_succ_cons,List.drop_zero,z40]
  ·rw[show((s.size:Int)% 2).toNat=0 by omega]
   unfold gH
   rw[if_neg hp,List.drop_zero,z40]
 ·intro _ ho
  have ho:=of_decide_eq_true ho
  unfold gH
  rw[if_pos (by omega)];rfl
theorem Mw{odd:Bool}:∀{l:List Int} {i:Nat},cY odd l i=none->(∀x∈l,x/16<=9/\x % 16<=9)/\(i=0->odd=true->l.getD 0 0/16=0)
 | [],i,_=>⟨fun x hx=>(by cases hx),fun _ _=>rfl⟩
 |a::r,i,h=>by
  rw[cY] at h
  by_cases h1:i=0/\odd=true/\a/16≠0
  ·rw[if_pos h1] at h;cases h
  ·rw[if_neg h1] at h
   by_cases h2:9<a/16\/9<a % 16
   ·rw[if_pos h2] at h;cases h
   ·rw[if_neg h2] at h
    refine⟨fun x hx=> ?_,fun hi ho=> ?_⟩
    ·rcases List.mem_cons.1 hx with rfl|hx
     ·omega
     ·exact(Mw h).1 x hx
    ·show a/16=0
     by_cases h3:a/16=0
     ·exact h3
     ·exact absurd ⟨hi,ho,h3⟩ h1
theorem zK:∀{l:List Int},(∀x∈l,zq x)->dg (df l)=l
 | [],_=>by simp [df,dg]
 |x::r,h=>by
  have hx:=h x List.mem_cons_self
  unfold zq at hx
  rw[df,dg,zK fun y hy=>h y (List.mem_cons_of_mem _ hy),show 16*(48+x/16-48)+(48+x % 16-48)=x by omega]
theorem NU:∀{l:List Int},(∀x∈l,zq x)->(∀x∈l,x/16<=9/\x % 16<=9)->bh (df l)=true
 | [],_,_=>rfl
 |x::r,h,h9=>by
  have hx:=h x List.mem_cons_self
  have hy:=h9 x List.mem_cons_self
  unfold zq at hx
  rw[df]
  exact qW.2 ⟨qV.2 (by omega),qW.2 ⟨qV.2 (by omega),NU (fun y hy=>h y (List.mem_cons_of_mem _ hy)) fun y hy=>h9 y (List.mem_cons_of_mem _ hy)⟩⟩
theorem ML{l:List Int}(h:bh l=true):∀x∈l,zq x:=fun x hx=>by
 have:=qV.1 (List.all_eq_true.1 h x hx)
 unfold zq;omega
theorem Mz{b t:ByteArray}{n i:Int}(h:iL b n=(t,0,i))(hb:(b.size:Int)=(n+1)/2):mX t=(b,true)/\(t.size:Int)=n/\bh (bl t)=true:=by
 unfold iL at h
 by_cases h0:n<0\/999<n
 ·rw[if_pos h0] at h;cases h
 ·rw[if_neg h0,if_neg (by omega),<-hb,Int.toNat_natCast,List.take_of_length_le (by rw[zg];exact Nat.le_refl _)] at h
  cases he:cY (decide (n % 2=1)) (bl b) 0 with
  |some e=>
   rw[he] at h
   dsimp only at h
   injection h with _ h
   injection h with h _
   exfalso
   have key:∀{l:List Int} {i:Nat} {odd:Bool} {e:Int×Int},cY odd l i=some e->e.1≠0:=by
    intro l
    induction l with
    |nil=>intro i odd e h;cases h
    |cons a r ih=>
     intro i odd e h
     rw[cY] at h
     split at h
     ·cases h;decide
     ·split at h
      ·cases h;simp
      ·exact ih h
   exact key he h
  |none=>
   rw[he] at h
   dsimp only at h
   obtain⟨g1,g2⟩:=Mw he
   have mU:∀x∈bl b,zq x:=fun x hx=>im hx
   have eB:=NU mU g1
   have ht:t=strOf ((df (bl b)).drop (n % 2).toNat):=(congrArg Prod.fst h).symm
   have zZ:bh ((df (bl b)).drop (n % 2).toNat)=true:=List.all_eq_true.2 fun x hx=>List.all_eq_true.1 eB x (List.mem_of_mem_drop hx)
   have dQ:bl t=(df (bl b)).drop (n % 2).toNat:=by rw[ht];exact rF (ML zZ)
   have gP:t.size=2*b.size-(n % 2).toNat:=by rw[<-zg,dQ,List.length_drop,zt2,zg]
   have hX:gH t=df (bl b):=by
    unfold gH
    by_cases hp:n % 2=1
    ·rw[if_pos (by omega),dQ,show(n % 2).toNat=1 by omega]
     have h1:=g2 rfl (by rw[zT hp])
     cases hl:bl b with
     |nil=>
      have h9:b.size=0:=by rw[<-zg,hl];rfl
      omega
     |cons x r=>
      rw[hl] at h1
      have h1:x/16=0:=h1
      rw[df,List.drop_succ_cons,List.drop_zero,h1];rfl
    ·rw[if_neg (by omega),dQ,show(n % 2).toNat=0 by omega,List.drop_zero]
   have hd:bh (bl t)=true:=by rw[dQ];exact zZ
   refine⟨?_,by omega,hd⟩
   rw[zj2 (by omega) hd,hX,zK mU,z40]
theorem K5{a:Int}(h:bX a=true):zW zU ((16:Int)*(zW zU (a-48)))=16*(a-48):=by
 have:=qV.1 h
 simp [IntKind.wrap,IntKind.signed,IntKind.bits]
 omega
theorem K6{c a:Int}(h:bX a=true)(hc:bX c=true):zW zU (16*(c-48)+zW zU (a-48))=16*(c-48)+(a-48):=by
 have:=qV.1 h
 have:=qV.1 hc
 simp [IntKind.wrap,IntKind.signed,IntKind.bits]
 omega
theorem alK(o:List Int)(x y:Int):(o++ [x]).set o.length y=o++ [y]:=by
 rw[List.set_append_right _ _ (Nat.le_refl _)];simp
theorem ahu(o:List Int)(x:Int):(o++ [x]).getD o.length 0=x:=by
 rw[List.getD_eq_getElem?_getD,List.getElem?_append_right (Nat.le_refl _)];simp
theorem zyx(s:ByteArray)(hs:s.size<=1099511627776)(hd:bh (bl s)=true):∀(n j k:Nat),j+n=s.size->n<k->
 (∀o:List Int,o.length+n<=35184372088832->n % 2=0->xO k s o 0 (j:Int)=some (o++dg ((bl s).drop j)))/\
 (∀(o:List Int) (c:Int),o.length+n<=35184372088832->bX c=true->n % 2=1->xO k s (o++ [16*(c-48)]) 1 (j:Int)=some (o++dg (c::(bl s).drop j)))
 |n,j,0,_,hk=>by omega
 |0,j,k+1,hj,hk=>by
  refine⟨fun o ho hp=> ?_,fun o c ho hc hp=>by omega⟩
  unfold xO IM
  rw[zF (by omega),zD,List.drop_eq_nil_of_le (by rw[zg];omega)]
  simp [dg]
 |n+1,j,k+1,hj,hk=>by
  have aq:j<s.size:=by omega
  have hl:j<(bl s).length:=by rw[zg];exact aq
  have d1:=List.all_eq_true.1 hd _ (List.getElem_mem hl)
  obtain⟨ih0,ih1⟩:=zyx s hs hd n (j+1) k (by omega) (by omega)
  refine⟨fun o ho hp=> ?_,fun o c ho hc hp=> ?_⟩
  ·unfold xO IM
   rw[zT (by omega),zC,zh aq,Int.toNat_natCast,qZ hl,K5 d1,zo (by omega),zT (rfl:(0:Int)=0),zC,zT (by simp only[List.length_singleton];omega),zC]
   rw[show zW zI ((1:Int)-0)=1 from by decide]
   dsimp only
   rw[ih1 o _ (by omega) d1 (by omega),<-List.drop_eq_getElem_cons hl]
  ·unfold xO IM
   have hi:zW zI ((((o++ [16*(c-48)]).length:Nat):Int)-1)=(o.length:Int):=by
    rw[zi (by simp only[List.length_append,List.length_singleton];omega) (by simp only[List.length_append,List.length_singleton];omega),List.length_append,List.length_singleton];omega
   rw[zT (by omega),zC,zh aq,Int.toNat_natCast,qZ hl,zo (by omega),zF (by decide:¬(1:Int)=0),zD,hi,zh (by rw[List.length_append,List.length_singleton];omega),Int.toNat_natCast,ahu,alK,K6 d1 hc]
   rw[show zW zI ((1:Int)-1)=0 from by decide]
   dsimp only
   rw[ih0 _ (by rw[List.length_append,List.length_singleton];omega) (by omega),List.drop_eq_getElem_cons hl,dg,List.append_assoc]
   rfl
theorem zro(s:ByteArray)(hs:s.size<=maxLen):yd s=some (mX s):=by
 unfold yd IL mX
 by_cases h1:(999:Int)<(s.size:Int)
 ·rw[zT h1,zC,zF (by omega)];rfl
 ·rw[zF h1,zD,Us s hs,zc]
  cases hd:bh (bl s) with
  |false=>rw[zF (p:=s.size<=999/\false=true) (fun h=>by cases h.2)];rfl
  |true=>
   rw[Bool.not_true,zD,zT (⟨by omega,rfl⟩:s.size<=999/\true=true),zC,u7]
   obtain⟨l0,l1⟩:=zyx s (by omega) hd s.size 0 ah (by omega) (by rw[zn];omega)
   rw[show((0:Nat):Int)=0 from rfl,List.drop_zero] at l0 l1
   by_cases hp:s.size % 2=1
   ·rw[if_pos hp,zT (by omega),zC,hp,zT (by decide),zC]
    have:=l1 [] 48 (by simp;omega) rfl hp
    rw[List.nil_append] at this⊢
    dsimp only
    rw[show([(0:Int)]:List Int)=[16*((48:Int)-48)] from rfl,show((1:Nat):Int)=1 from rfl,this,zc]
    rfl
   ·rw[if_neg hp,zF (by omega),zD]
    have:=l0 [] (by simp;omega) (by omega)
    rw[List.nil_append] at this
    dsimp only
    rw[show s.size % 2=0 by omega,show((0:Nat):Int)=0 from rfl,this,zc]
    rfl
def eK(ae form:Int):Bool:=decide ((ae=1\/ae=2)/\(form=2\/form=3))
def jU(ae form:Int):Nat:=if ae=2 then(form.toNat+1)/2 else form.toNat
def xV(ae form n:Int):ByteArray×Int:=
 bif eK ae form then(bif(gX n form).2 then(if ae=2 then(mX (gX n form).1).1 else(gX n form).1,0) else(bs [],5)) else(bs [],1)
def nO(ae form:Int)(s:ByteArray):Option Int:=
 if ae=2 then(if(iL s form).2.1=0 then(if(cW (bl (iL s form).1)).2=true then some (cW (bl (iL s form).1)).1 else none) else none) else if(cW (bl s)).2=true then some (cW (bl s)).1 else none
def io(ae form:Int)(b:ByteArray)(at_:Int):Int×Int×Int:=
 bif eK ae form&&decide (0<=at_/\at_<=b.size) then(if b.size<at_.toNat+jU ae form then(0,0,2) else
  match nO ae form (b.extract at_.toNat (at_.toNat+jU ae form)) with
  |some n=>(n,((at_.toNat+jU ae form:Nat):Int),0)
  |none=>(0,0,3)) else(0,0,1)
theorem zk7(n w:Int):(gX n w).1.size<=18:=by
 by_cases h:0<=n/\1<=w/\w<=18/\n.toNat/10^w.toNat=0
 ·rw[Tr h];show(strOf _).size<=18;rw[lL,zei];omega
 ·rw[xW h];decide
theorem ahS(ae form n:Int)(hn:n<=9223372036854775807):qs ae form n=some (xV ae form n):=by
 unfold qs WH qt Sl jl Sm xV eK
 by_cases h1:ae=1<;>by_cases h2:ae=2<;>by_cases h3:form=2<;>by_cases h4:form=3<;>(try(exfalso;omega))<;>simp [h1,h2,h3,h4,aoE _ _ hn]
 all_goals
  cases hp:(gX n _).2<;>simp [hp]
 all_goals
  rw[zj0 _ (by have:=zk7 n;simp only[maxLen];first|(have:=this 2;omega)|(have:=this 3;omega))]
  rfl
theorem aiD(ae form n:Int)(hn:n<=9223372036854775807):Bs ae form n=some (xV ae form n):=by
 unfold Bs zxf yg S9 xV eK
 by_cases h1:ae=1<;>by_cases h2:ae=2<;>by_cases h3:form=2<;>by_cases h4:form=3<;>(try(exfalso;omega))<;>simp [h1,h2,h3,h4,NH _ _ hn]
 all_goals
  cases hp:(gX n _).2<;>simp [hp]
 all_goals
  rw[zro _ (by have:=zk7 n;simp only[maxLen];first|(have:=this 2;omega)|(have:=this 3;omega))]
  rfl
theorem xx{b:ByteArray}{i n:Nat}(h:i+n<=b.size):(b.extract i (i+n)).size=n:=by rw[ByteArray.size_extract];omega
theorem Rk{b t:ByteArray}{n e i:Int}(h:iL b n=(t,e,i)):t.size<=1998:=by
 unfold iL at h
 split at h
 ·cases h;decide
 ·split at h
  ·cases h;decide
  ·split at h
   ·cases h;decide
   ·cases h
    rw[lL,List.length_drop,zt2,List.length_take]
    omega
theorem ahQ(ae form:Int)(b:ByteArray)(at_:Int)(hb:b.size<=1099511627776):sG ae form b at_=some (io ae form b at_):=by
 unfold sG WD qt Sl jl Sm io eK
 by_cases b6:0<=at_/\at_<=b.size
 ·obtain⟨m,rfl⟩:∃m:Nat,at_=m:=⟨at_.toNat,by omega⟩
  have hm:m<=b.size:=by omega
  have w0:zW zI ((b.size:Int)-(m:Int))=(b.size:Int)-m:=zi (by omega) (by omega)
  have w1:∀k:Nat,k<=3->zW zI ((m:Int)+(k:Int))=((m+k:Nat):Int):=fun k hk=>by rw[zi (by omega) (by omega)];omega
  have z1:=Rp 2 (by decide) (by decide)
  have z2:=Rp 3 (by decide) (by decide)
  have v1:=w1 1 (by decide)
  have v2:=w1 2 (by decide)
  have v3:=w1 3 (by decide)
  rw[show((1:Nat):Int)=1 from rfl] at v1
  rw[show((2:Nat):Int)=2 from rfl] at v2
  rw[show((3:Nat):Int)=3 from rfl] at v3
  have t2:((m:Int)+2).toNat=m+2:=by omega
  have t3:((m:Int)+3).toNat=m+3:=by omega
  have a1:¬(m:Int)<0:=by omega
  have a2:¬(b.size:Int)<m:=by omega
  have a3:0<=((m:Int)):=by omega
  have a4:(m:Int)<=b.size:=by omega
  by_cases h1:ae=1<;>by_cases h2:ae=2<;>by_cases h3:form=2<;>by_cases h4:form=3<;>(try(exfalso;omega))<;>simp [h1,h2,h3,h4,a1,a2,w0,z1,z2,v1,v2,v3,jU]
  all_goals
   rw[zT hm,zC]
   split
   ·rename_i hc
    rw[zT (by omega),zC]
   ·rename_i hc
    rw[zF (by omega),zD,zT (by omega),zC,zT (by omega),zC,zT (by omega),zC]
    try rw[t2]
    try rw[t3]
    first
     |(rw[Qn _ (by rw[ByteArray.size_extract];simp only[maxLen];omega),zc]
       unfold nO
       rw[if_neg (by decide)]
       cases(cW _).2<;>rfl)
     |(rw[ziz _ _ (by rw[ByteArray.size_extract];omega),zc]
       unfold nO
       rw[if_pos rfl]
       generalize hg:iL _ _=gg
       obtain⟨t,e,i⟩:=gg
       dsimp only
       by_cases he:e=0
       ·rw[zT he,zC,if_pos he,Qn _ (by have:=Rk hg;simp only[maxLen];omega),zc]
        cases(cW _).2<;>rfl
       ·rw[zF he,if_neg he];rfl)
 ·rw[zF (p:=0<=at_/\at_<=(b.size:Int)) b6,Bool.and_false,zD]
  by_cases h1:ae=1<;>by_cases h2:ae=2<;>by_cases h3:form=2<;>by_cases h4:form=3<;>(try(exfalso;omega))<;>by_cases h5:at_<0<;>by_cases h6:(b.size:Int)<at_<;>(try(exfalso;omega))<;>simp [h1,h2,h3,h4,h5,h6]
theorem aiy(ae form:Int)(b:ByteArray)(at_:Int)(hb:b.size<=1099511627776):JQ ae form b at_=some (io ae form b at_):=by
 unfold JQ zxe yg S9 io eK
 by_cases b6:0<=at_/\at_<=b.size
 ·obtain⟨m,rfl⟩:∃m:Nat,at_=m:=⟨at_.toNat,by omega⟩
  have hm:m<=b.size:=by omega
  have w0:zW zI ((b.size:Int)-(m:Int))=(b.size:Int)-m:=zi (by omega) (by omega)
  have w1:∀k:Nat,k<=3->zW zI ((m:Int)+(k:Int))=((m+k:Nat):Int):=fun k hk=>by rw[zi (by omega) (by omega)];omega
  have z1:zW zI 1=1:=by decide
  have z2:zW zI 2=2:=by decide
  have v1:=w1 1 (by decide)
  have v2:=w1 2 (by decide)
  have v3:=w1 3 (by decide)
  rw[show((1:Nat):Int)=1 from rfl] at v1
  rw[show((2:Nat):Int)=2 from rfl] at v2
  rw[show((3:Nat):Int)=3 from rfl] at v3
  have t2:((m:Int)+2).toNat=m+2:=by omega
  have t3:((m:Int)+3).toNat=m+3:=by omega
  have a1:¬(m:Int)<0:=by omega
  have a2:¬(b.size:Int)<m:=by omega
  have a3:0<=((m:Int)):=by omega
  have a4:(m:Int)<=b.size:=by omega
  by_cases h1:ae=1<;>by_cases h2:ae=2<;>by_cases h3:form=2<;>by_cases h4:form=3<;>(try(exfalso;omega))<;>simp [h1,h2,h3,h4,a1,a2,w0,z1,z2,v1,v2,v3,jU]
  all_goals
   rw[zT hm,zC]
   split
   ·rename_i hc
    rw[zT (by omega),zC]
   ·rename_i hc
    rw[zF (by omega),zD,zT (by omega),zC,zT (by omega),zC,zT (by omega),zC]
    try rw[t2]
    try rw[t3]
    first
     |(rw[Ut _ (by rw[ByteArray.size_extract];simp only[maxLen];omega),zc]
       unfold nO
       rw[if_neg (by decide)]
       cases(cW _).2<;>rfl)
     |(rw[zrm _ _ (by rw[ByteArray.size_extract];omega),zc]
       unfold nO
       rw[if_pos rfl]
       generalize hg:iL _ _=gg
       obtain⟨t,e,i⟩:=gg
       dsimp only
       by_cases he:e=0
       ·rw[zT he,zC,if_pos he,Ut _ (by have:=Rk hg;simp only[maxLen];omega),zc]
        cases(cW _).2<;>rfl
       ·rw[zF he,if_neg he];rfl)
 ·rw[zF (p:=0<=at_/\at_<=(b.size:Int)) b6,Bool.and_false,zD]
  by_cases h1:ae=1<;>by_cases h2:ae=2<;>by_cases h3:form=2<;>by_cases h4:form=3<;>(try(exfalso;omega))<;>by_cases h5:at_<0<;>by_cases h6:(b.size:Int)<at_<;>(try(exfalso;omega))<;>simp [h1,h2,h3,h4,h5,h6]
theorem EZ(n:Int):Q4 n=some (if n<0\/65535<n then 0 else if 255<n then 3 else if 127<n then 2 else 1):=by
 unfold Q4 oj
 by_cases h1:n<0
 ·rw[zT h1,if_pos (.inl h1)];rfl
 by_cases h2:(65535:Int)<n
 ·rw[zF h1,zT h2,if_pos (.inr h2)];rfl
 rw[zF h1,zF h2,if_neg (by omega)]
 by_cases h3:(255:Int)<n
 ·rw[zT h3,if_pos h3];rfl
 by_cases h4:(127:Int)<n
 ·rw[zF h3,zT h4,if_neg h3,if_pos h4];rfl
 ·rw[zF h3,zF h4,if_neg h3,if_neg h4];rfl
theorem zS:∃k,ah=k+1+1+1:=⟨ah-3,by rw[zn]⟩
theorem or_zero{y:Int}(hy:zq y):aM .or .i64 (zW zI (0*2^min (8:Int).toNat 64)) (zW zI y)=y:=by
 obtain⟨k,rfl⟩:=lE hy
 clear hy
 revert k
 decide+kernel
theorem agV(s:ByteArray)(hs:s.size<=9223372036854775000)(a:Int):Q3 s a=yk s a:=by
 unfold Q3 ko yk Tb
 by_cases h1:a<0
 ·rw[zT h1];rfl
 rw[zF h1,zD,zD]
 by_cases h2:(s.size:Int)<a
 ·rw[zT h2];rfl
 rw[zF h2,zD,zD]
 by_cases h3:a=(s.size:Int)
 ·rw[zT h3];rfl
 have wa:∀{R:Type} (x:Option R),zd a s.size x=x:=fun x=>zl (by omega) (by omega)
 rw[zF h3,zD,zD]
 simp only[wa]
 obtain⟨x,hx⟩:=lE (uo s a.toNat)
 have rD:=x.2
 have w1:zW zI (a+1)=a+1:=zi (by omega) (by omega)
 have w2:zW zI (x.1:Int)=(x.1:Int):=zi (by omega) (by omega)
 have w4:zW zI ((s.size:Int)-a)=(s.size:Int)-a:=zi (by omega) (by omega)
 have w5:zW zI ((s.size:Int)-(a+1))=(s.size:Int)-(a+1):=zi (by omega) (by omega)
 have w6:zW zI ((x.1:Int)-128)=(x.1:Int)-128:=zi (by omega) (by omega)
 have w7:zW zI ((x.1:Int)-127)=(x.1:Int)-127:=zi (by omega) (by omega)
 obtain⟨k,hk⟩:=zS
 simp only[hx,w2,w1,w4,w5,w6,w7,hk]
 by_cases h4:(127:Int)<(x.1:Int)
 ·rw[zT h4,zC,zF (by omega:¬(x.1:Int)<128),zD]
  by_cases h5:(x.1:Int)=129
  ·have wn:zW zI (0+1)=1:=rfl
   simp only[h5]
   by_cases h6:(s.size:Int)-a<2
   ·have e1:((s.size:Int)-(a+1)<129-128):=by omega
    have e2:((s.size:Int)-a<129-127):=by omega
    rw[zT e1,zT e2];rfl
   ·have e1:¬((s.size:Int)-(a+1)<129-128):=by omega
    have e2:¬((s.size:Int)-a<129-127):=by omega
    have wb:∀{R:Type} (x:Option R),zd (a+1) s.size x=x:=fun x=>zl (by omega) (by omega)
    have wc:∀{R:Type} (x:Option R),zd (zW zI (a+1+0)) s.size x=x:=fun x=>by rw[Int.add_zero,w1];exact wb x
    obtain⟨y,hy⟩:=lE (uo s (a+1).toNat)
    have TR:=y.2
    have w3:zW zI (y.1:Int)=(y.1:Int):=zi (by omega) (by omega)
    have oz:=or_zero (y:=(y.1:Int)) ⟨by omega,by omega⟩
    rw[w3] at oz
    rw[zF e1,zF e2]
    have l1:eh (k+1+1+1) s (a+1) 0 (129-128) (129-128) 0=some (a+1,(y.1:Int),129-128):=by
     simp only[eh,kp]
     rw[show decide ((0:Int)<129-128)=true from rfl,zC,wc,wn,show decide ((1:Int)<129-128)=false from rfl,zD,Int.add_zero,w1,hy,w3,oz]
    simp only[wb,hy,w3]
    show(eh (k+1+1+1) s (a+1) 0 (129-128) (129-128) 0).bind _=_
    rw[l1,Option.bind_some]
    unfold kq
    dsimp only
    rw[EZ,Option.bind_some]
    by_cases h7:(y.1:Int)<128
    ·rw[if_neg (by omega),if_neg (by omega),if_neg (by omega),zT h7];rfl
    ·rw[if_neg (by omega),if_neg (by omega),if_pos (by omega),zF h7]
     have:zW zI (a+1+(129-128))=zW zI (a+2):=by congr 1;omega
     simp only[this]
     rfl
  ·by_cases h6:(x.1:Int)=130
   ·have wn:zW zI (0+1)=1:=rfl
    have wm:zW zI (1+1)=2:=rfl
    simp only[h6]
    by_cases h7:(s.size:Int)-a<3
    ·have e1:((s.size:Int)-(a+1)<130-128):=by omega
     have e2:((s.size:Int)-a<130-127):=by omega
     rw[zT e1,zT e2];rfl
    ·have e1:¬((s.size:Int)-(a+1)<130-128):=by omega
     have e2:¬((s.size:Int)-a<130-127):=by omega
     have wb:∀{R:Type} (x:Option R),zd (a+1) s.size x=x:=fun x=>zl (by omega) (by omega)
     have w8:zW zI (a+2)=a+2:=zi (by omega) (by omega)
     have w9:zW zI (a+1+1)=a+2:=by rw[zi (by omega) (by omega)];omega
     have wd:∀{R:Type} (x:Option R),zd (a+2) s.size x=x:=fun x=>zl (by omega) (by omega)
     obtain⟨y,hy⟩:=lE (uo s (a+1).toNat)
     obtain⟨z,hz⟩:=lE (uo s (a+2).toNat)
     have TR:=y.2
     have hz2:=z.2
     have w3:zW zI (y.1:Int)=(y.1:Int):=zi (by omega) (by omega)
     have Mj:zW zI (z.1:Int)=(z.1:Int):=zi (by omega) (by omega)
     have oz:=or_zero (y:=(y.1:Int)) ⟨by omega,by omega⟩
     have ob:=OI (x:=(y.1:Int)) (y:=(z.1:Int)) ⟨by omega,by omega⟩ ⟨by omega,by omega⟩
     rw[w3] at oz
     rw[w3,Mj] at ob
     rw[zF e1,zF e2]
     have l1:eh (k+1+1+1) s (a+1) 0 (130-128) (130-128) 0=some (a+1,(y.1:Int)*256+(z.1:Int),130-128):=by
      simp only[eh,kp]
      rw[show decide ((0:Int)<130-128)=true from rfl,zC,wn,wm,show decide ((1:Int)<130-128)=true from rfl,zC,show decide ((2:Int)<130-128)=false from rfl,zD,Int.add_zero,w1,wb,w9,wd,hy,hz,w3,Mj,oz,ob]
     have w5':zW zI (256*(y.1:Int))=256*(y.1:Int):=zi (by omega) (by omega)
     have w6':zW zI (256*(y.1:Int)+(z.1:Int))=(y.1:Int)*256+(z.1:Int):=by rw[zi (by omega) (by omega)];omega
     simp only[wb,w8,wd,hy,hz,w3,Mj,w5',w6']
     show(eh (k+1+1+1) s (a+1) 0 (130-128) (130-128) 0).bind _=_
     rw[l1,Option.bind_some]
     unfold kq
     dsimp only
     rw[EZ,Option.bind_some]
     by_cases h8:(y.1:Int)=0
     ·rw[if_neg (by omega),if_neg (by omega),zT h8]
      by_cases h9:(127:Int)<(y.1:Int)*256+(z.1:Int)
      ·rw[if_pos h9];rfl
      ·rw[if_neg h9];rfl
     ·rw[if_neg (by omega),if_pos (by omega),zF h8]
      have:zW zI (a+1+(130-128))=zW zI (a+3):=by congr 1;omega
      simp only[this]
      rfl
   ·rw[zF h5,zF h6]
    by_cases h7:(x.1:Int)=128
    ·rw[zT h7];rfl
    ·rw[zF h7,zT (by omega:(130:Int)<(x.1:Int))];rfl
 ·rw[zF h4,zD,zT (by omega:(x.1:Int)<128),zC,zF (by omega:¬(s.size:Int)-(a+1)<0),zD]
  have l1:eh (k+1+1+1) s (a+1) (x.1:Int) 0 0 0=some (a+1,(x.1:Int),0):=by
   simp only[eh,kp]
   rw[show decide ((0:Int)<0)=false from rfl,zD]
  show(eh (k+1+1+1) s (a+1) (x.1:Int) 0 0 0).bind _=_
  rw[l1,Option.bind_some]
  unfold kq
  dsimp only
  rw[EZ,Option.bind_some,if_neg (by omega),if_neg (by omega),if_neg (by omega),Int.add_zero,w1]
  rfl
abbrev aI:=Int×ByteArray×Unit
theorem zyf(l:List aI)(hl:l.length<=9223372036854775807)(t:Int):∀(m j k:Nat),j+m=l.length->m<k->Hr k l (l.length:Int) t (j:Int)=some (if t∈(l.drop j).map (fun v=>v.1) then .inl true else .inr ())
 |m,j,0,_,hk=>by omega
 |0,j,k+1,hj,hk=>by
  unfold Hr Te
  rw[zF (by omega),List.drop_eq_nil_of_le (by omega)];rfl
 |m+1,j,k+1,hj,hk=>by
  have aq:j<l.length:=by omega
  have hg:∀d,l.getD j d=l[j]:=fun d=>by rw[List.getD_eq_getElem?_getD,List.getElem?_eq_getElem aq];rfl
  unfold Hr Te
  rw[zT (by omega),zC,zh aq,Int.toNat_natCast,hg,List.drop_eq_getElem_cons aq,List.map_cons]
  by_cases h:l[j].1=t
  ·rw[zT h,if_pos (by rw[h];exact List.mem_cons_self)];rfl
  ·rw[zF h,zD,zo (by omega)]
   dsimp only
   rw[zyf l hl t m (j+1) k (by omega) (by omega)]
   by_cases h2:t∈(l.drop (j+1)).map (fun v=>v.1)
   ·rw[if_pos h2,if_pos (List.mem_cons_of_mem _ h2)]
   ·rw[if_neg h2,if_neg (fun h3=>(List.mem_cons.1 h3).elim (fun e=>h e.symm) h2)]
theorem Ok(l:List aI)(hl:l.length<=maxLen)(t:Int):JY l (l.length:Int) t=some (decide (t∈l.map fun v=>v.1)):=by
 rw[zj] at hl
 unfold JY zxi
 dsimp only
 have:=zyf l hl t l.length 0 ah (by omega) (by rw[zn];omega)
 rw[show((0:Nat):Int)=(0:Int) from rfl,List.drop_zero] at this
 rw[this,Option.bind_some]
 by_cases h:t∈l.map fun v=>v.1
 ·rw[if_pos h,zT h];rfl
 ·rw[if_neg h,zF h];rfl
theorem OW(b:ByteArray)(hb:b.size<=9223372036854775000):∀(k:Nat) (t5:List aI) (t7:Int),t5.length<=5864062014805->Iq k b t5 t7 (dz (t5.map fun v=>v.1))=A9 k b t5 t7
 |0,_,_,_=>rfl
 |k+1,t5,t7,hl=>by
  unfold Iq XI A9 Td
  rw[ah7 b hb]
  generalize decide (t7<(b.size:Int))=c0
  cases c0 with
  |false=>rfl
  |true=>
   simp only[zC]
   cases yj b t7 with
   |none=>rfl
   |some r1=>
    simp only[Option.bind_some]
    generalize(!decide (r1.2.2=0))=c1
    cases c1 with
    |true=>rfl
    |false=>
     simp only[zD]
     rw[agV b hb]
     cases yk b r1.2.1 with
     |none=>rfl
     |some r2=>
      simp only[Option.bind_some]
      generalize(!decide (r2.2.2=0))=c2
      cases c2 with
      |true=>rfl
      |false=>
       simp only[zD]
       generalize decide (zW zI ((b.size:Int)-r2.2.1)<r2.1)=c3
       cases c3 with
       |true=>rfl
       |false=>
        simp only[zD]
        rw[Ok t5 (by rw[zj];omega),Option.bind_some]
        have e1:=Um (fy (.int .i64)) (fun _ _=>rfl) r1.1 (t5.map fun v=>v.1)
        have e2:=Un (fy (.int .i64)) (fun _ _=>rfl) r1.1 (t5.map fun v=>v.1)
        by_cases hm:r1.1∈t5.map fun v=>v.1
        ·rw[e1.2 hm,zT hm];rfl
        ·rw[Gr e1 hm,Gr e2 hm,zF hm]
         simp only[zD]
         rw[zac]
         have hs:(t5.map fun v=>v.1)++ [r1.1]=(t5++ [((r1.1,(b.extract r2.2.1.toNat (zW zI (r2.2.1+r2.1)).toNat),()):aI)]).map fun v=>v.1:=by simp
         rw[hs]
         by_cases hn:(t5.length+1)*24<=140737488355328
         ·rw[OW b hb k _ _ (by simp;omega)]
         ·have:decide ((t5.length+(List.length ([(r1.1,(b.extract r2.2.1.toNat (zW zI (r2.2.1+r2.1)).toNat),())]:List aI)))*24<=140737488355328)=false:=zF (by simp;omega)
          simp only[this,zD]
theorem aia(b:ByteArray)(hb:b.size<=9223372036854775000):sV b=yl b:=by
 unfold sV XH yl Tc
 dsimp only
 have:=OW b hb ah [] 0 (by simp)
 rw[show dz (([]:List aI).map fun v=>v.1)=[] from rfl] at this
 rw[this]
 rfl
theorem akH(s:Spec)(x:ByteArray)(hx:x.size<=9223372036854775000):bH s x=iQ s x:=by
 unfold bH Xo iQ IU
 rw[Rj,um,ait _ _ (by rw[zj];omega),zds _ _ (by rw[zj];omega),aia x hx]
theorem adb(a b:Spec):kX a b=uF a b:=by
 unfold kX Xp uF IV vw Xq
 rw[Rj,um,Rj,um,akI,ze2]
 simp only[Option.bind_some]
 by_cases h1:bp a=0
 ·by_cases h2:bp b=0
  ·simp only[h1,h2,decide_true,zC,Bool.not_true,zD]
   by_cases h3:a.2.2.2.1<=b.2.2.2.1
   ·rw[zT h3,zF (by omega:¬b.2.2.2.1<a.2.2.2.1)]
    by_cases h4:b.2.2.2.2.1<=a.2.2.2.2.1
    ·rw[zT h4,zF (by omega:¬a.2.2.2.2.1<b.2.2.2.2.1)]
     simp only[zC,zD]
     by_cases h5:a.2.1=5
     ·simp [h5]
     ·by_cases h6:a.2.1=6
      ·simp [h6]
      ·by_cases h7:b.2.1=6
       ·simp [h5,h6,h7]
       ·simp [h5,h6,h7]
    ·rw[zF h4,zT (by omega:a.2.2.2.2.1<b.2.2.2.2.1)];rfl
   ·rw[zF h3,zT (by omega:b.2.2.2.1<a.2.2.2.1)];rfl
  ·simp [h1,h2]
 ·simp [h1]
theorem ah8(s:ByteArray)(hs:s.size<=9223372036854775000)(a:Int)(h0:0<=a)(h1:a<s.size):∃r,yj s a=some r/\(r.2.2=0->a<r.2.1/\r.2.1<=s.size):=by
 unfold yj Ta
 have wa:∀{R:Type} (x:Option R),zd a s.size x=x:=fun x=>zl (by omega) (by omega)
 rw[zF (by omega:¬a<0),zF (by omega:¬(s.size:Int)<a),zF (by omega:¬a=(s.size:Int))]
 simp only[zD,wa]
 obtain⟨x,hx⟩:=lE (uo s a.toNat)
 have w1:zW zI (a+1)=a+1:=zi (by omega) (by omega)
 have w4:zW zI ((s.size:Int)-a)=(s.size:Int)-a:=zi (by omega) (by omega)
 rw[hx,w1,w4]
 rcases zel x with h|⟨h,BL⟩|⟨h,BL⟩
 ·rw[h];exact⟨_,rfl,fun h=>by cases h⟩
 ·rw[h]
  exact⟨_,rfl,fun _=>⟨by show a<a+1;omega,by show a+1<=_;omega⟩⟩
 ·rw[h,Option.bind_some]
  simp only[show decide ((2:Int)=0)=false from rfl,show decide ((2:Int)=1)=false from rfl,zD]
  by_cases h4:(s.size:Int)-a<2
  ·rw[zT h4];exact⟨_,rfl,fun h=>by cases h⟩
  ·have wb:∀{R:Type} (x:Option R),zd (a+1) s.size x=x:=fun x=>zl (by omega) (by omega)
   have w2:zW zI (a+2)=a+2:=zi (by omega) (by omega)
   rw[zF h4]
   simp only[zD,wb]
   generalize decide (ze s (a+1).toNat=0)=c1
   generalize decide ((127:Int)<ze s (a+1).toNat)=c2
   cases c1
   ·cases c2
    ·exact⟨_,rfl,fun _=>⟨by show a<zW zI (a+2);rw[w2];omega,by show zW zI (a+2)<=_;rw[w2];omega⟩⟩
    ·exact⟨_,rfl,fun h=>by cases h⟩
   ·exact⟨_,rfl,fun h=>by cases h⟩
theorem agW(s:ByteArray)(hs:s.size<=9223372036854775000)(a:Int)(h0:0<=a)(h1:a<=s.size):∃r,yk s a=some r/\(r.2.2=0->a<r.2.1/\r.2.1<=s.size/\0<=r.1/\r.1<=65535):=by
 unfold yk Tb
 rw[zF (by omega:¬a<0),zF (by omega:¬(s.size:Int)<a)]
 simp only[zD]
 by_cases he:a=(s.size:Int)
 ·rw[zT he];exact⟨_,rfl,fun h=>by cases h⟩
 have wa:∀{R:Type} (x:Option R),zd a s.size x=x:=fun x=>zl (by omega) (by omega)
 rw[zF he]
 simp only[zD,wa]
 obtain⟨x,hx⟩:=lE (uo s a.toNat)
 have rD:=x.2
 have w1:zW zI (a+1)=a+1:=zi (by omega) (by omega)
 have w2:zW zI (x.1:Int)=(x.1:Int):=zi (by omega) (by omega)
 have w4:zW zI ((s.size:Int)-a)=(s.size:Int)-a:=zi (by omega) (by omega)
 have w7:zW zI ((x.1:Int)-127)=(x.1:Int)-127:=zi (by omega) (by omega)
 simp only[hx,w2,w1,w4,w7]
 by_cases h4:(x.1:Int)<128
 ·rw[zT h4]
  exact⟨_,rfl,fun _=>⟨by show a<a+1;omega,by show a+1<=_;omega,by show(0:Int)<=(x.1:Int);omega,by show(x.1:Int)<=65535;omega⟩⟩
 rw[zF h4]
 have h08:∀i,zq (ze s i):=uo s
 by_cases h5:(x.1:Int)=129
 ·have wb:(s.size:Int)-a<(x.1:Int)-127\/∀{R:Type} (x:Option R),zd (a+1) s.size x=x:=by
   by_cases h:(s.size:Int)-a<(x.1:Int)-127
   ·exact .inl h
   ·exact .inr fun x=>zl (by omega) (by omega)
  rw[zT h5]
  simp only[Bool.not_true,zD,zC]
  by_cases h6:(s.size:Int)-a<(x.1:Int)-127
  ·rw[zT h6];exact⟨_,rfl,fun h=>by cases h⟩
  ·have wb:∀{R:Type} (x:Option R),zd (a+1) s.size x=x:=fun x=>zl (by omega) (by omega)
   have w8:zW zI (a+2)=a+2:=zi (by omega) (by omega)
   obtain⟨y,hy⟩:=lE (h08 (a+1).toNat)
   have TR:=y.2
   have w3:zW zI (y.1:Int)=(y.1:Int):=zi (by omega) (by omega)
   rw[zF h6]
   simp only[zD,wb,hy,w3,w8]
   generalize decide ((y.1:Int)<128)=c
   cases c
   ·exact⟨_,rfl,fun _=>⟨by show a<a+2;omega,by show a+2<=_;omega,by show(0:Int)<=(y.1:Int);omega,by show(y.1:Int)<=65535;omega⟩⟩
   ·exact⟨_,rfl,fun h=>by cases h⟩
 ·rw[zF h5]
  simp only[Bool.not_false,zD,zC]
  by_cases h9:(x.1:Int)=130
  ·rw[zT h9]
   simp only[Bool.not_true,zD]
   by_cases h6:(s.size:Int)-a<(x.1:Int)-127
   ·rw[zT h6];exact⟨_,rfl,fun h=>by cases h⟩
   ·have wb:∀{R:Type} (x:Option R),zd (a+1) s.size x=x:=fun x=>zl (by omega) (by omega)
    have w8:zW zI (a+2)=a+2:=zi (by omega) (by omega)
    have w9:zW zI (a+3)=a+3:=zi (by omega) (by omega)
    have wd:∀{R:Type} (x:Option R),zd (a+2) s.size x=x:=fun x=>zl (by omega) (by omega)
    obtain⟨y,hy⟩:=lE (h08 (a+1).toNat)
    obtain⟨z,hz⟩:=lE (h08 (a+2).toNat)
    have TR:=y.2
    have hz2:=z.2
    have w3:zW zI (y.1:Int)=(y.1:Int):=zi (by omega) (by omega)
    have Mj:zW zI (z.1:Int)=(z.1:Int):=zi (by omega) (by omega)
    have w5':zW zI (256*(y.1:Int))=256*(y.1:Int):=zi (by omega) (by omega)
    have w6':zW zI (256*(y.1:Int)+(z.1:Int))=256*(y.1:Int)+(z.1:Int):=zi (by omega) (by omega)
    rw[zF h6]
    simp only[zD,wb,w8,wd,hy,hz,w3,Mj,w5',w6',w9]
    generalize decide ((y.1:Int)=0)=c
    cases c
    ·exact⟨_,rfl,fun _=>⟨by show a<a+3;omega,by show a+3<=_;omega,by show(0:Int)<=256*(y.1:Int)+(z.1:Int);omega,by show 256*(y.1:Int)+(z.1:Int)<=65535;omega⟩⟩
    ·exact⟨_,rfl,fun h=>by cases h⟩
  ·rw[zF h9];exact⟨_,rfl,fun h=>by cases h⟩
theorem zaf(b:ByteArray)(hb:b.size<=1099511627776):∀(n:Nat) (k:Nat) (t5:List aI) (a:Int),0<=a->a<=b.size->(b.size:Int)-a<=n->n<k->t5.length+n<=2199023255552->∃r,A9 k b t5 a=some r
 |n,0,_,_,_,_,_,h,_=>by omega
 |n,k+1,t5,a,h0,h1,h2,h3,h4=>by
  unfold A9 Td
  by_cases aq:a<(b.size:Int)
  ·obtain⟨r1,e1,p1⟩:=ah8 b (by omega) a h0 aq
   rw[zT aq,e1,Option.bind_some,zC]
   by_cases z1:r1.2.2=0
   ·obtain⟨q1,q2⟩:=p1 z1
    obtain⟨r2,e2,p2⟩:=agW b (by omega) r1.2.1 (by omega) q2
    simp only[z1,decide_true,Bool.not_true,zD]
    rw[e2,Option.bind_some]
    by_cases z2:r2.2.2=0
    ·obtain⟨u1,u2,u3,u4⟩:=p2 z2
     simp only[z2,decide_true,Bool.not_true,zD]
     have w1:zW zI ((b.size:Int)-r2.2.1)=(b.size:Int)-r2.2.1:=zi (by omega) (by omega)
     have w2:zW zI (r2.2.1+r2.1)=r2.2.1+r2.1:=zi (by omega) (by omega)
     rw[w1,w2]
     by_cases z3:(b.size:Int)-r2.2.1<r2.1
     ·rw[zT z3];exact⟨_,rfl⟩
     ·rw[zF z3,zD,Ok t5 (by rw[zj];omega),Option.bind_some]
      generalize decide (r1.1∈t5.map fun v=>v.1)=c
      cases c with
      |true=>exact⟨_,rfl⟩
      |false=>
       rw[zD,zT (by omega:0<=r2.2.1+r2.1),zT (by omega:r2.2.1+r2.1<=(((b.size:Nat):Int))),zT (by omega:0<=r2.2.1),zT (by omega:r2.2.1<=(((r2.2.1+r2.1).toNat:Nat):Int)),zT (by simp;omega)]
       simp only[zC]
       obtain⟨n,rfl⟩:∃n',n=n'+1:=⟨n-1,by omega⟩
       exact zaf b hb n k _ _ (by omega) (by omega) (by omega) (by omega) (by simp;omega)
    ·simp only[z2,decide_false,Bool.not_false,zC];exact⟨_,rfl⟩
   ·simp only[z1,decide_false,Bool.not_false,zC];exact⟨_,rfl⟩
  ·rw[zF aq];exact⟨_,rfl⟩
theorem zrk(b:ByteArray)(hb:b.size<=1099511627776):∃r,yl b=some r:=by
 unfold yl Tc
 dsimp only
 obtain⟨r,hr⟩:=zaf b hb b.size ah [] 0 (by omega) (by omega) (by omega) (by rw[zn];omega) (by simp;omega)
 rw[hr,Option.bind_some]
 cases r<;>exact⟨_,rfl⟩
@[irreducible] def bk (s:Spec) (x:ByteArray):Int:=(iQ s x).getD 0
theorem ur(s:Spec)(x:ByteArray)(hx:x.size<=1099511627776):iQ s x=some (bk s x):=by
 have:∃v,iQ s x=some v:=by
  unfold iQ IU
  rw[um,Option.bind_some,zds _ _ (by rw[zj];omega),Option.bind_some]
  obtain⟨r,hr⟩:=zrk x hx
  rw[hr,Option.bind_some]
  generalize(!decide (bp s=0))=c1
  generalize decide ((x.size:Int)<s.2.2.2.1)=c2
  generalize decide (s.2.2.2.2.1<(x.size:Int))=c3
  generalize decide ((0:Int)<=qb s.2.1 (bl x) 0)=c4
  generalize decide (s.2.1=6)=c5
  cases c1<;>cases c2<;>cases c3<;>cases c4<;>cases c5<;>first|exact⟨_,rfl⟩|skip
  cases r with
  |inl r=>simp only[zD,zC,Sum.elim_inl];cases(!decide (r.2.1=0))<;>exact⟨_,rfl⟩
  |inr r=>simp only[zD,zC,Sum.elim_inr];cases(!decide (r.2.1=0))<;>exact⟨_,rfl⟩
 obtain⟨v,hv⟩:=this
 unfold bk
 rw[hv];rfl
theorem uR(s:Spec)(x:ByteArray)(hx:x.size<=1099511627776):bH s x=some (bk s x):=by
 rw[akH s x (by omega),ur s x hx]
@[irreducible] def lB (a b:Spec):Bool:=(uF a b).getD false
theorem ze3(a b:Spec):uF a b=some (lB a b):=by
 have:∃v,uF a b=some v:=by
  unfold uF IV
  rw[um,um,ze2]
  simp only[Option.bind_some]
  generalize(!decide (bp a=0))=c1
  generalize(!decide (bp b=0))=c2
  generalize decide (b.2.2.2.1<a.2.2.2.1)=c3
  generalize decide (a.2.2.2.2.1<b.2.2.2.2.1)=c4
  generalize decide (a.2.1=5)=c5
  generalize decide (a.2.1=6)=c6
  generalize decide (b.2.1=6)=c7
  cases c1<;>cases c2<;>cases c3<;>cases c4<;>cases c5<;>cases c6<;>cases c7<;>exact⟨_,rfl⟩
 obtain⟨v,hv⟩:=this
 unfold lB
 rw[hv];rfl
theorem agM(a b:Spec):kX a b=some (lB a b):=by rw[adb,ze3]
abbrev aN:=Int×Int×Int×ByteArray×List bj×Unit
def aO(s:zf)(no:Int):Spec:=(fA s.2.2.1 no).getD cQ
def bg(s:zf)(no:Int):Bool:=(fA s.2.2.1 no).isSome
theorem xv(s:zf)(no:Int)(hl:s.2.2.1.length<=maxLen):fb s no=some (aO s no,bg s no):=by
 rw[al2 s no hl]
 unfold aO bg
 cases fA s.2.2.1 no<;>rfl
theorem AR(s:zf)(no:Int):(dN s.2.2.1 no 0= -1/\bg s no=false/\aO s no=cQ)\/(0<=dN s.2.2.1 no 0/\dN s.2.2.1 no 0<s.2.2.1.length/\bg s no=true/\s.2.2.1.getD (dN s.2.2.1 no 0).toNat cQ=aO s no):=by
 unfold bg aO
 rcases aes s.2.2.1 no 0 (Int.le_refl _) with⟨h1,h2⟩|⟨h1,h2,x,h3,h4⟩
 ·left;rw[h2];exact⟨h1,rfl,rfl⟩
 ·right;rw[h3];rw[Int.sub_zero] at h4;exact⟨h1,by omega,rfl,h4⟩
def dn(r:aN)(a b:zf):Bool:=
 (bif decide (r.1=3) then !decide (r.2.1=0) else !bg a r.2.1)||(bif decide (r.1=2) then !decide (r.2.2.1=0) else !bg b r.2.2.1)
def iJ(r:aN):Bool:=(!decide (r.2.2.2.1=bs [])&& !decide (r.1=3))||(decide (0<(r.2.2.2.2.1.length:Int))&& !decide (r.1=5))
def ja(s:Spec):Bool:=decide (s.2.1=1)&&decide (s.2.2.1=1)
def eZ:List bj->Spec->Spec->Int
 | [],_,_=>0
 |p::r,x,y=>bif !decide (bk x p.1=0) then bk x p.1 else bif !decide (bk y p.2.1=0) then bk y p.2.1 else eZ r x y
def Tu(l:List bj)(x y:Spec):Int:=bif(!decide ((Be l).1=0)||decide ((l.length:Int)=0)) then 15 else eZ l x y
def jQ(r:aN)(x y:Spec):Int:=
 bif decide (r.1=1) then(bif lB y x then 0 else 6) else bif decide (r.1=3) then bk y r.2.2.2.1 else bif decide (r.1=4) then(bif ja x&&ja y then 0 else 6) else bif decide (r.1=5) then Tu r.2.2.2.2.1 x y else 0
def dp(r:aN)(a b:zf):Int:=
 bif decide (r.1<1)||decide (5<r.1) then 1 else bif dn r a b then 9 else bif iJ r then 3 else jQ r (aO a r.2.1) (aO b r.2.2.1)
structure dO(l:List bj):Prop where
 len:l.length<=1000000
 sz:∀p∈l,p.1.size<=1099511627776/\p.2.1.size<=1099511627776
structure dZ(r:aN):Prop where
 text:r.2.2.2.1.size<=1099511627776
 eJ:dO r.2.2.2.2.1
theorem aoe(r:aN)(a b:zf)(ha:a.2.2.1.length<=maxLen)(hb:b.2.2.1.length<=maxLen):sN r a b=some (aO a r.2.1,aO b r.2.2.1,bif dn r a b then 9 else 0):=by
 unfold sN W6 dn
 rw[xv a _ ha,xv b _ hb]
 simp only[Option.bind_some]
 generalize decide (r.1=3)=k3
 generalize decide (r.1=2)=k2
 generalize decide (r.2.1=0)=z1
 generalize decide (r.2.2.1=0)=z2
 generalize bg a r.2.1=h1
 generalize bg b r.2.2.1=h2
 cases k3<;>cases k2<;>cases z1<;>cases z2<;>cases h1<;>cases h2<;>rfl
theorem ahN(s:Spec):iP s=some (ja s):=by
 unfold iP W7 ja
 generalize decide (s.2.1=1)=c1
 generalize decide (s.2.2.1=1)=c2
 cases c1<;>cases c2<;>rfl
def xp(v:Int):Sum Int Unit:=if v=0 then .inr () else .inl v
theorem Nr(x y:Spec):∀(l:List bj) (i:Int),(∀p∈l,p.1.size<=1099511627776/\p.2.1.size<=1099511627776)->
 aU (fun i (p:bj) (s:Unit) K=>((bH x p.1).bind fun r2=>(bif(!decide (r2=0)) then some (Sum.inl r2) else((bH y p.2.1).bind fun r3=>(bif(!decide (r3=0)) then some (Sum.inl r3) else K s))))) (fun _=>some (Sum.inr ())) l i ()=some (xp (eZ l x y))
 | [],i,_=>rfl
 |p::r,i,h=>by
  obtain⟨h1,h2⟩:=h p List.mem_cons_self
  simp only[aU,eZ]
  rw[uR x p.1 h1,Option.bind_some]
  by_cases z1:bk x p.1=0
  ·rw[zT z1]
   simp only[Bool.not_true,zD]
   rw[uR y p.2.1 h2,Option.bind_some]
   by_cases z2:bk y p.2.1=0
   ·rw[zT z2]
    simp only[Bool.not_true,zD]
    exact Nr x y r (i+1) fun q hq=>h q (List.mem_cons_of_mem _ hq)
   ·rw[zF z2]
    simp only[Bool.not_false,zC,xp,if_neg z2]
  ·rw[zF z1]
   simp only[Bool.not_false,zC,xp,if_neg z1]
theorem alO(l:List bj)(x y:Spec)(h:dO l):lW l x y=some (Tu l x y):=by
 have hl:=h.len
 unfold lW W9 Tu
 dsimp only
 rw[acx l (by rw[zj];omega),Option.bind_some]
 cases(!decide ((Be l).1=0)) with
 |true=>rfl
 |false=>
  cases decide ((l.length:Int)=0) with
  |true=>rfl
  |false=>
   simp only[zD,Bool.or_false]
   have:=b7 iH l (by rw[zj];omega) (fun i (p:bj) (s:Unit) K=>((bH x p.1).bind fun r2=>(bif(!decide (r2=0)) then some (Sum.inl r2) else((bH y p.2.1).bind fun r3=>(bif(!decide (r3=0)) then some (Sum.inl r3) else K s))))) (fun _=>some (Sum.inr ()))
    (fun k i s=>Sr k l (l.length:Int) i x y) (fun k i s=>rfl) ()
   rw[this,Nr x y l 0 h.sz,Option.bind_some]
   unfold xp
   by_cases z:eZ l x y=0
   ·rw[if_pos z,z];rfl
   ·rw[if_neg z];rfl
theorem ac9(r:aN)(a b:zf)(h:dZ r)(ha:a.2.2.1.length<=maxLen)(hb:b.2.2.1.length<=maxLen):ni r a b=some (dp r a b):=by
 unfold ni W5 dp jQ iJ
 rw[aoe r a b ha hb]
 simp only[Option.bind_some,agM,uR _ _ h.text,ahN,alO _ _ _ h.eJ]
 generalize dn r a b=e
 generalize decide (r.1<1)=c1
 generalize decide ((5:Int)<r.1)=c2
 generalize decide (r.2.2.2.1=bs [])=t
 generalize decide ((0:Int)<(r.2.2.2.2.1.length:Int))=p
 generalize decide (r.1=1)=k1
 generalize decide (r.1=3)=k3
 generalize decide (r.1=4)=k4
 generalize decide (r.1=5)=k5
 generalize ja (aO a r.2.1)=p1
 generalize ja (aO b r.2.2.1)=p2
 generalize lB (aO b r.2.2.1) (aO a r.2.1)=w
 cases c1<;>cases c2<;>first|rfl|skip
 cases e<;>first|rfl|skip
 cases t<;>cases p<;>cases k3<;>cases k5<;>first|rfl|skip
 all_goals(cases k1<;>cases k4<;>cases p1<;>cases p2<;>cases w<;>rfl)
def mM(v:Int):Sum Unit Int:=if v=0 then .inl () else .inr v
theorem zzb(x y:Spec):∀(l:List bj) (i:Int),(∀p∈l,p.1.size<=1099511627776/\p.2.1.size<=1099511627776)->
 aU (fun i (p:bj) (s:Unit) K=>((iQ x p.1).bind fun r2=>(bif(!decide (r2=0)) then some (Sum.inr r2) else((iQ y p.2.1).bind fun r3=>(bif(!decide (r3=0)) then some (Sum.inr r3) else K s))))) (fun _=>some (Sum.inl ())) l i ()=some (mM (eZ l x y))
 | [],i,_=>rfl
 |p::r,i,h=>by
  obtain⟨h1,h2⟩:=h p List.mem_cons_self
  simp only[aU,eZ]
  rw[ur x p.1 h1,Option.bind_some]
  by_cases z1:bk x p.1=0
  ·rw[zT z1]
   simp only[Bool.not_true,zD]
   rw[ur y p.2.1 h2,Option.bind_some]
   by_cases z2:bk y p.2.1=0
   ·rw[zT z2]
    simp only[Bool.not_true,zD]
    exact zzb x y r (i+1) fun q hq=>h q (List.mem_cons_of_mem _ hq)
   ·rw[zF z2]
    simp only[Bool.not_false,zC,mM,if_neg z2]
  ·rw[zF z1]
   simp only[Bool.not_false,zC,mM,if_neg z1]
theorem acX(r:aN)(a b:zf)(h:dZ r)(i k:Int)(Ll:0<=i)(hi:i<a.2.2.1.length)(B3:0<=k)(hk:k<b.2.2.1.length):
 vd ah i k 0 r a b=some (mM (eZ r.2.2.2.2.1 (a.2.2.1.getD i.toNat cQ) (b.2.2.1.getD k.toNat cQ))):=by
 have hl:=h.eJ.len
 have:=fH iH r.2.2.2.2.1 (by rw[zj];omega) (fun j (p:bj) (s:Unit) K=>((iQ (a.2.2.1.getD i.toNat cQ) p.1).bind fun r2=>(bif(!decide (r2=0)) then some (Sum.inr r2) else((iQ (b.2.2.1.getD k.toNat cQ) p.2.1).bind fun r3=>(bif(!decide (r3=0)) then some (Sum.inr r3) else K s))))) (fun _=>some (Sum.inl ()))
  (fun f j s=>vd f i k j r a b) (fun f j s h0 h1=>by
    show vd (f+1) i k j r a b=_
    conv=>lhs;unfold vd RC Ux Uy Uz
    have wi:∀{R:Type} (x:Option R),zd i a.2.2.1.length x=x:=fun x=>zl Ll hi
    have wk:∀{R:Type} (x:Option R),zd k b.2.2.1.length x=x:=fun x=>zl B3 hk
    have wj:∀{R:Type} (x:Option R),zd j r.2.2.2.2.1.length x=x:=fun x=>zl h0 h1
    rw[zT h1]
    simp only[zC,wi,wk,wj]
    rfl) (fun f s=>by
    show vd (f+1) i k r.2.2.2.2.1.length r a b=_
    conv=>lhs;unfold vd RC
    rw[zF (by omega),zD]) ()
 rw[this]
 exact zzb _ _ _ 0 h.eJ.sz
theorem adU(r:aN)(a b:zf)(h:dZ r)(ha:a.2.2.1.length<=maxLen)(hb:b.2.2.1.length<=maxLen):sd r a b=some (dp r a b):=by
 unfold sd Ib
 have h0:∀t,CE t r a b=bif t then some 1 else Vq r a b:=fun t=>by cases t<;>rfl
 simp only[h0]
 unfold dp
 by_cases c1:r.1<1
 ·rw[zT c1];rfl
 by_cases c2:(5:Int)<r.1
 ·rw[zF c1,zT c2];rfl
 rw[zF c1,zF c2]
 simp only[zD,Bool.or_false]
 have e2:∀i k t,AX i k t r a b=bif t then some 9 else RU i k r a b:=fun i k t=>by cases t<;>rfl
 have e4:∀i k t,CF i k t r a b=bif t then some 9 else Gz i k r a b:=fun i k t=>by cases t<;>rfl
 have e6:∀i k t,CG i k t r a b=bif t then some 3 else RV i k r a b:=fun i k t=>by cases t<;>rfl
 have e9:∀t,CH t=some (bif t then 6 else 0):=fun t=>by cases t<;>rfl
 have hi:=AR a r.2.1
 have hk:=AR b r.2.2.1
 have ei:decide (dN a.2.2.1 r.2.1 0<0)= !bg a r.2.1:=by
  rcases hi with⟨h1,h2,_⟩|⟨h1,_,h2,_⟩
  ·rw[h1,h2];rfl
  ·rw[h2,zF (by omega)];rfl
 have ek:decide (dN b.2.2.1 r.2.2.1 0<0)= !bg b r.2.2.1:=by
  rcases hk with⟨h1,h2,_⟩|⟨h1,_,h2,_⟩
  ·rw[h1,h2];rfl
  ·rw[h2,zF (by omega)];rfl
 unfold Vq Ic
 rw[AQ a _ ha,Option.bind_some,AQ b _ hb,Option.bind_some]
 generalize Lm:dN a.2.2.1 r.2.1 0=i at*
 generalize hkk:dN b.2.2.1 r.2.2.1 0=k at*
 have s3:RU i k r a b=bif(bif decide (r.1=2) then !decide (r.2.2.1=0) else !bg b r.2.2.1) then some 9 else Gz i k r a b:=by
  unfold RU Ie
  simp only[e4,ek]
  generalize decide (r.1=2)=k2
  generalize decide (r.2.2.1=0)=z
  generalize bg b r.2.2.1=hh
  cases k2<;>cases z<;>cases hh<;>rfl
 have s1:(bif decide (r.1=3) then bif !decide (r.2.1=0) then AX i k true r a b else bif !decide (r.1=3) then AX i k (decide (i<0)) r a b else AX i k false r a b
  else bif !decide (r.1=3) then AX i k (decide (i<0)) r a b else AX i k false r a b)=bif dn r a b then some 9 else Gz i k r a b:=by
  simp only[e2,s3,ei]
  unfold dn
  generalize decide (r.1=3)=k3
  generalize decide (r.2.1=0)=z
  generalize bg a r.2.1=hh
  generalize(bif decide (r.1=2) then !decide (r.2.2.1=0) else !bg b r.2.2.1)=w
  cases k3<;>cases z<;>cases hh<;>cases w<;>rfl
 have s5:Gz i k r a b=bif iJ r then some 3 else RV i k r a b:=by
  unfold Gz Ig iJ
  simp only[e6]
  generalize decide (r.2.2.2.1=bs [])=t
  generalize decide ((0:Int)<(r.2.2.2.2.1.length:Int))=p
  generalize decide (r.1=3)=k3
  generalize decide (r.1=5)=k5
  cases t<;>cases p<;>cases k3<;>cases k5<;>rfl
 refine Eq.trans s1 ?_
 cases hE:dn r a b with
 |true=>rfl
 |false=>
  rw[zD,zD,s5]
  cases iJ r with
  |true=>rfl
  |false=>
   rw[zD,zD]
   unfold RV Ih jQ
   have g1:r.1=1\/r.1=4\/r.1=5->bg a r.2.1=true:=fun hr=>by
    unfold dn at hE
    rw[zF (by omega:¬r.1=3)] at hE
    cases hh:bg a r.2.1 with
    |true=>rfl
    |false=>rw[hh] at hE;simp at hE
   have g2:r.1≠2->bg b r.2.2.1=true:=fun hr=>by
    unfold dn at hE
    rw[zF hr] at hE
    cases hh:bg b r.2.2.1 with
    |true=>rfl
    |false=>rw[hh] at hE;simp at hE
   have hA:bg a r.2.1=true->0<=i/\i<a.2.2.1.length/\a.2.2.1.getD i.toNat cQ=aO a r.2.1:=fun hh=>by
    rcases hi with⟨_,h2,_⟩|⟨h1,h2,_,h3⟩
    ·rw[h2] at hh;cases hh
    ·exact⟨h1,h2,h3⟩
   have hB:bg b r.2.2.1=true->0<=k/\k<b.2.2.1.length/\b.2.2.1.getD k.toNat cQ=aO b r.2.2.1:=fun hh=>by
    rcases hk with⟨_,h2,_⟩|⟨h1,h2,_,h3⟩
    ·rw[h2] at hh;cases hh
    ·exact⟨h1,h2,h3⟩
   by_cases k1:r.1=1
   ·obtain⟨a1,a2,a3⟩:=hA (g1 (.inl k1))
    obtain⟨b1,b2,b3⟩:=hB (g2 (by omega))
    rw[zT k1,zC,zC,zl b1 b2,zl a1 a2,a3,b3,ze3,Option.bind_some]
    cases lB (aO b r.2.2.1) (aO a r.2.1)<;>rfl
   rw[zF k1,zD,zD]
   by_cases k3:r.1=3
   ·obtain⟨b1,b2,b3⟩:=hB (g2 (by omega))
    rw[zT k3,zC,zC,zl b1 b2,b3,ur _ _ h.text];rfl
   rw[zF k3,zD,zD]
   by_cases k4:r.1=4
   ·obtain⟨a1,a2,a3⟩:=hA (g1 (.inr (.inl k4)))
    obtain⟨b1,b2,b3⟩:=hB (g2 (by omega))
    rw[zT k4,zC,zC,zl a1 a2,zl b1 b2]
    simp only[a3,b3,e9]
    unfold ja
    generalize decide ((aO a r.2.1).2.1=1)=d1
    generalize decide ((aO a r.2.1).2.2.1=1)=d2
    generalize decide ((aO b r.2.2.1).2.1=1)=d3
    generalize decide ((aO b r.2.2.1).2.2.1=1)=d4
    cases d1<;>cases d2<;>cases d3<;>cases d4<;>rfl
   rw[zF k4,zD,zD]
   by_cases k5:r.1=5
   ·obtain⟨a1,a2,a3⟩:=hA (g1 (.inr (.inr k5)))
    obtain⟨b1,b2,b3⟩:=hB (g2 (by omega))
    have HC:∀t,zrp i k t r a b=bif t then some 15 else RB i k r a b:=fun t=>by cases t<;>rfl
    have HD:RB i k r a b=some (eZ r.2.2.2.2.1 (aO a r.2.1) (aO b r.2.2.1)):=by
     unfold RB Uw
     dsimp only
     rw[acX r a b h i k a1 a2 b1 b2,Option.bind_some,a3,b3]
     unfold mM
     by_cases z:eZ r.2.2.2.2.1 (aO a r.2.1) (aO b r.2.2.1)=0
     ·rw[if_pos z,z];rfl
     ·rw[if_neg z];rfl
    have hl:=h.eJ.len
    rw[zT k5,zC,zC,adT _ (by rw[zj];omega),Option.bind_some]
    simp only[HC,HD]
    unfold Tu
    generalize(!decide ((Be r.2.2.2.2.1).1=0))=d1
    generalize decide ((r.2.2.2.2.1.length:Int)=0)=d2
    cases d1<;>cases d2<;>rfl
   ·rw[zF k5];rfl
@[irreducible] def ue (x:ByteArray):Int:=((yl x).map fun r=>Sum.elim (fun(w:ak×Int×Int)=>w.2.1) (fun(w:ak×Int×Int)=>w.2.1) r).getD 0
theorem H6(s:Spec)(x:ByteArray)(hx:x.size<=1099511627776):bk s x=0↔bp s=0/\s.2.2.2.1<=(x.size:Int)/\(x.size:Int)<=s.2.2.2.2.1/\(bl x).all (jh s.2.1)=true/\(s.2.1=6->ue x=0):=by
 have h:=ur s x hx
 unfold iQ IU at h
 rw[um,Option.bind_some,zds _ _ (by rw[zj];omega),Option.bind_some] at h
 obtain⟨r,hr⟩:=zrk x hx
 have ht:ue x=Sum.elim (fun(w:ak×Int×Int)=>w.2.1) (fun(w:ak×Int×Int)=>w.2.1) r:=by unfold ue;rw[hr];rfl
 rw[hr,Option.bind_some] at h
 by_cases c1:bp s=0
 ·rw[zT c1,Bool.not_true,zD] at h
  by_cases c2:(x.size:Int)<s.2.2.2.1
  ·rw[zT c2,zC] at h
   have:=Option.some.inj h
   exact⟨fun e=>by omega,fun e=>by omega⟩
  rw[zF c2,zD] at h
  by_cases c3:s.2.2.2.2.1<(x.size:Int)
  ·rw[zT c3,zC] at h
   have:=Option.some.inj h
   exact⟨fun e=>by omega,fun e=>by omega⟩
  rw[zF c3,zD] at h
  have hf:=zr1 s.2.1 (bl x) 0 (Int.le_refl _)
  by_cases c4:(0:Int)<=qb s.2.1 (bl x) 0
  ·rw[zT c4,zC] at h
   have:=Option.some.inj h
   exact⟨fun e=>by omega,fun e=>absurd e.2.2.2.1 (hf.1 c4)⟩
  rw[zF c4,zD] at h
  have eB:(bl x).all (jh s.2.1)=true:=by
   cases hq:(bl x).all (jh s.2.1) with
   |true=>rfl
   |false=>exact absurd (hf.2 (by rw[hq];decide)) c4
  by_cases c5:s.2.1=6
  ·rw[zT c5,zC] at h
   have key:(bif(!decide (ue x=0)) then some (13:Int) else some 0)=some (bk s x):=by
    rw[<-h]
    cases r with
    |inl r=>rw[Sum.elim_inl] at ht⊢;rw[<-ht]
    |inr r=>rw[Sum.elim_inr] at ht⊢;rw[<-ht]
   by_cases c6:ue x=0
   ·rw[zT c6] at key
    have:=Option.some.inj key
    exact⟨fun _=>⟨c1,by omega,by omega,eB,fun _=>c6⟩,fun _=>this.symm⟩
   ·rw[zF c6] at key
    have:=Option.some.inj key
    exact⟨fun e=>by omega,fun e=>absurd (e.2.2.2.2 c5) c6⟩
  ·rw[zF c5,zD] at h
   have:=Option.some.inj h
   exact⟨fun _=>⟨c1,by omega,by omega,eB,fun e=>absurd e c5⟩,fun _=>this.symm⟩
 ·rw[zF c1,Bool.not_false,zC] at h
  have:=Option.some.inj h
  exact⟨fun e=>by omega,fun e=>absurd e.1 c1⟩
theorem alX(a b:Spec):lB a b=true↔bp a=0/\bp b=0/\a.2.2.2.1<=b.2.2.2.1/\b.2.2.2.2.1<=a.2.2.2.2.1/\(a.2.1=5\/(a.2.1=6/\b.2.1=6)\/(a.2.1≠5/\a.2.1≠6/\b.2.1≠6/\xY a.2.1 b.2.1=true)):=by
 have h:=ze3 a b
 unfold uF IV at h
 rw[um,um,ze2] at h
 simp only[Option.bind_some] at h
 by_cases c1:bp a=0
 ·rw[zT c1,Bool.not_true,zD] at h
  by_cases c2:bp b=0
  ·rw[zT c2,Bool.not_true,zD] at h
   by_cases c3:b.2.2.2.1<a.2.2.2.1
   ·rw[zT c3,zC] at h
    have:=Option.some.inj h
    exact⟨fun e=>(by rw[e] at this;cases this),fun e=>by omega⟩
   rw[zF c3,zD] at h
   by_cases c4:a.2.2.2.2.1<b.2.2.2.2.1
   ·rw[zT c4,zC] at h
    have:=Option.some.inj h
    exact⟨fun e=>(by rw[e] at this;cases this),fun e=>by omega⟩
   rw[zF c4,zD] at h
   by_cases c5:a.2.1=5
   ·rw[zT c5,zC] at h
    have:=Option.some.inj h
    exact⟨fun _=>⟨c1,c2,by omega,by omega,.inl c5⟩,fun _=>this.symm⟩
   rw[zF c5,zD] at h
   by_cases c6:a.2.1=6
   ·rw[zT c6,zC] at h
    have:=Option.some.inj h
    rw[<-this,decide_eq_true_eq]
    exact⟨fun e=>⟨c1,c2,by omega,by omega,.inr (.inl ⟨c6,by omega⟩)⟩,fun e=>by omega⟩
   rw[zF c6,zD] at h
   by_cases c7:b.2.1=6
   ·rw[zT c7,zC] at h
    have:=Option.some.inj h
    rw[<-this,decide_eq_true_eq]
    exact⟨fun e=>by omega,fun e=>by omega⟩
   rw[zF c7,zD] at h
   have:=Option.some.inj h
   rw[<-this]
   refine⟨fun e=>⟨c1,c2,by omega,by omega,.inr (.inr ⟨c5,c6,c7,e⟩)⟩,fun e=> ?_⟩
   rcases e.2.2.2.2 with e|e|e
   ·exact absurd e c5
   ·exact absurd e.1 c6
   ·exact e.2.2.2
  ·rw[zF c2,Bool.not_false,zC] at h
   have:=Option.some.inj h
   exact⟨fun e=>(by rw[e] at this;cases this),fun e=>absurd e.2.1 c2⟩
 ·rw[zF c1,Bool.not_false,zC] at h
  have:=Option.some.inj h
  exact⟨fun e=>(by rw[e] at this;cases this),fun e=>absurd e.1 c1⟩
theorem zrh{s:Spec}(h:bp s=0):(2<=s.1/\s.1<=128)/\(1<=s.2.1/\s.2.1<=6)/\(1<=s.2.2.1/\s.2.2.1<=3)/\(1<=s.2.2.2.1/\s.2.2.2.1<=s.2.2.2.2.1/\s.2.2.2.2.1<=999)/\(s.2.2.1=1->s.2.2.2.1=s.2.2.2.2.1)/\¬(s.2.2.1=1/\s.2.1=6):=by
 unfold bp at h
 split at h
 ·omega
 split at h
 ·omega
 split at h
 ·omega
 split at h
 ·omega
 split at h
 ·omega
 ·omega
theorem aoB:∀a b:Fin 7,xY (a.1:Int) (b.1:Int)=true->a.1≠5->a.1≠6->b.1≠6->(a.1=b.1\/(a.1=3/\(b.1=1\/b.1=2))\/(a.1=4/\(b.1=1\/b.1=2\/b.1=3))):=by decide+kernel
theorem aik{a b:Int}(h:xY a b=true)(h5:a≠5)(h6:a≠6)(h7:b≠6):a=b\/(a=3/\(b=1\/b=2))\/(a=4/\(b=1\/b=2\/b=3)):=by
 have hr:1<=a/\a<=6/\1<=b/\b<=6:=by
  unfold xY at h
  rw[Bool.and_eq_true,decide_eq_true_eq] at h
  exact h.1
 obtain⟨x,rfl⟩:=zyl ⟨hr.1,hr.2.1⟩
 obtain⟨y,rfl⟩:=zyl ⟨hr.2.2.1,hr.2.2.2⟩
 have:=aoB x y h (by omega) (by omega) (by omega)
 omega
theorem alm{a b x:Int}(h:a=b\/(a=3/\(b=1\/b=2))\/(a=4/\(b=1\/b=2\/b=3)))(hx:jh b x=true):jh a x=true:=by
 rcases h with rfl|⟨rfl,rfl|rfl⟩|⟨rfl,rfl|rfl|rfl⟩
 ·exact hx
 all_goals
  simp [jh] at hx⊢
  omega
theorem alk(x:Int):jh 5 x=true:=by simp [jh]
theorem aeK{y x:Spec}{t:ByteArray}(ht:t.size<=1099511627776)(hw:lB y x=true)(hv:bk x t=0):bk y t=0:=by
 obtain⟨w1,w2,w3,w4,w5⟩:=(alX y x).1 hw
 obtain⟨v1,v2,v3,v4,v5⟩:=(H6 x t ht).1 hv
 refine(H6 y t ht).2 ⟨w1,by omega,by omega,?_,?_⟩
 ·rcases w5 with e|e|e
  ·rw[e,List.all_eq_true];exact fun b _=>alk b
  ·rw[e.1,<-e.2];exact v4
  ·rw[List.all_eq_true] at v4⊢
   exact fun b hb=>alm (aik e.2.2.2 e.1 e.2.1 e.2.2.1) (v4 b hb)
 ·intro e6
  rcases w5 with e|e|e
  ·omega
  ·exact v5 e.2
  ·exact absurd e6 e.2.1
theorem aok:jh 1=bX:=by funext b;simp [jh,bX]
theorem anW(l:List Int):l.all (jh 1)=bh l:=by rw[aok];rfl
theorem Qa{t:ByteArray}{w:Int}(h:(eI t w).2=true):1<=w/\w<=999/\(((eI t w).1).size:Int)=w/\bh (bl (eI t w).1)=true:=by
 by_cases hc:1<=t.size/\t.size<=999/\bh (bl t)=true/\1<=w/\w<=999
 ·rw[Gh hc] at h⊢
  by_cases h4:(t.size:Int)<=w
  ·rw[zT h4,zC]
   have hd:bh (List.replicate (w-t.size).toNat 48++bl t)=true:=by
    have e:bh (List.replicate (w-t.size).toNat 48++bl t)=(bh (List.replicate (w-t.size).toNat 48)&&bh (bl t)):=List.all_append ..
    have e2:bh (List.replicate (w-t.size).toNat 48)=true:=by
     rw[bh,List.all_eq_true]
     intro x hx
     rw[(List.mem_replicate.1 hx).2];rfl
    rw[e,e2,hc.2.2.1];rfl
   refine⟨hc.2.2.2.1,hc.2.2.2.2,?_,?_⟩
   ·rw[lL,List.length_append,List.length_replicate,zg];omega
   ·rw[rF (N5 hd)];exact hd
  ·rw[zF h4,zD] at h⊢
   cases hz:fc ((bl t).take (t.size-w.toNat)) with
   |false=>rw[hz] at h;cases h
   |true=>
    rw[zC]
    have hd:bh ((bl t).drop (t.size-w.toNat))=true:=by
     rw[bh,List.all_eq_true]
     intro x hx
     exact List.all_eq_true.1 hc.2.2.1 x (List.mem_of_mem_drop hx)
    refine⟨hc.2.2.2.1,hc.2.2.2.2,?_,?_⟩
    ·rw[lL,List.length_drop,zg];omega
    ·rw[rF (N5 hd)];exact hd
 ·rw[uy hc] at h;cases h
theorem aez{s:Spec}(h:ja s=true):s.2.1=1/\s.2.2.1=1:=by
 unfold ja at h
 rw[Bool.and_eq_true,decide_eq_true_eq,decide_eq_true_eq] at h
 exact h
abbrev nU:aI:=(0,bs [],())
def zx(r:aN)(b:zf)(t:ByteArray):aI×Int:=
 bif decide (r.1=1) then((r.2.2.1,t,()),0) else bif decide (r.1=2) then(nU,0) else bif decide (r.1=3) then((r.2.2.1,r.2.2.2.1,()),0)
 else bif decide (r.1=4) then(bif !bg b r.2.2.1 then(nU,9) else bif !(eI t (aO b r.2.2.1).2.2.2.1).2 then(nU,5) else((r.2.2.1,(eI t (aO b r.2.2.1).2.2.2.1).1,()),0))
 else bif decide (r.1=5) then(bif !(zp r.2.2.2.2.1 t).2 then(nU,15) else((r.2.2.1,(zp r.2.2.2.2.1 t).1,()),0)) else(nU,1)
theorem ac8(r:aN)(b:zf)(t:ByteArray)(hp:r.2.2.2.2.1.length<=maxLen)(hb:b.2.2.1.length<=maxLen)(ht:t.size<=maxLen):nh r b t=some (zx r b t):=by
 unfold nh W4 zx
 rw[xv b _ hb,Option.bind_some,aoD t _ ht,Option.bind_some,acw _ _ hp,Option.bind_some]
 generalize decide (r.1=1)=k1
 generalize decide (r.1=2)=k2
 generalize decide (r.1=3)=k3
 generalize decide (r.1=4)=k4
 generalize decide (r.1=5)=k5
 generalize bg b r.2.2.1=h
 generalize eI t (aO b r.2.2.1).2.2.2.1=p
 generalize zp r.2.2.2.2.1 t=q
 obtain⟨p1,p2⟩:=p
 obtain⟨q1,q2⟩:=q
 cases k1<;>cases k2<;>cases k3<;>cases k4<;>cases k5<;>cases h<;>cases p2<;>cases q2<;>rfl
theorem UD{s:zf}{no:Int}(h:bg s no=true):aO s no∈s.2.2.1/\(aO s no).1=no:=by
 unfold bg at h
 unfold aO
 cases hf:fA s.2.2.1 no with
 |none=>rw[hf] at h;cases h
 |some x=>
  unfold fA at hf
  exact⟨List.mem_of_find?_eq_some hf,by simpa using List.find?_some hf⟩
theorem Up{s:zf}(h:hP s){no:Int}(hh:bg s no=true):bp (aO s no)=0:=h.2.2.2.1 _ (UD hh).1
theorem ze6{l:List bj}{t:ByteArray}(h:(zp l t).2=true):∃p∈l,p.1=t/\(zp l t).1=p.2.1:=by
 unfold zp at h⊢
 cases hf:l.find? fun p=>decide (p.1=t) with
 |none=>rw[hf] at h;cases h
 |some p=>exact⟨p,List.mem_of_find?_eq_some hf,by simpa using List.find?_some hf,rfl⟩
theorem NA:∀{l:List bj} {x y:Spec},eZ l x y=0->∀p∈l,bk x p.1=0/\bk y p.2.1=0
 | [],x,y,h,p,hp=>by cases hp
 |q::l,x,y,h,p,hp=>by
  unfold eZ at h
  by_cases h1:bk x q.1=0
  ·rw[zT h1,Bool.not_true,zD] at h
   by_cases h2:bk y q.2.1=0
   ·rw[zT h2,Bool.not_true,zD] at h
    rcases List.mem_cons.1 hp with rfl|hp
    ·exact⟨h1,h2⟩
    ·exact NA h p hp
   ·rw[zF h2,Bool.not_false,zC] at h;exact absurd h h2
  ·rw[zF h1,Bool.not_false,zC] at h;exact absurd h h1
theorem Ue{r:aN}{a b:zf}(h:dp r a b=0):(1<=r.1/\r.1<=5)/\dn r a b=false/\iJ r=false/\jQ r (aO a r.2.1) (aO b r.2.2.1)=0:=by
 unfold dp at h
 by_cases c1:r.1<1
 ·rw[zT c1] at h;cases h
 by_cases c2:5<r.1
 ·rw[zT c2,Bool.or_true] at h;cases h
 rw[zF c1,zF c2,Bool.or_false,zD] at h
 cases he:dn r a b with
 |true=>rw[he] at h;cases h
 |false=>
  rw[he,zD] at h
  cases ht:iJ r with
  |true=>rw[ht] at h;cases h
  |false=>rw[ht,zD] at h;exact⟨by omega,rfl,rfl,h⟩
theorem zjm{r:aN}{a b:zf}(h:dn r a b=false):(r.1=3->r.2.1=0)/\(r.1≠3->bg a r.2.1=true)/\(r.1=2->r.2.2.1=0)/\(r.1≠2->bg b r.2.2.1=true):=by
 unfold dn at h
 rw[Bool.or_eq_false_iff] at h
 obtain⟨h1,h2⟩:=h
 refine⟨fun e=> ?_,fun e=> ?_,fun e=> ?_,fun e=> ?_⟩
 ·rw[zT e,zC] at h1;simpa using h1
 ·rw[zF e,zD] at h1;simpa using h1
 ·rw[zT e,zC] at h2;simpa using h2
 ·rw[zF e,zD] at h2;simpa using h2
theorem adw{r:aN}{a b:zf}{t:ByteArray}(ht:t.size<=1099511627776)(hr:dZ r)(hc:dp r a b=0)(hb:hP b)(hv:bg a r.2.1=true->bk (aO a r.2.1) t=0):
 ((zx r b t).2≠0->((r.1=4/\(zx r b t).2=5)\/(r.1=5/\(zx r b t).2=15))/\(zx r b t).1=nU)/\
 ((zx r b t).2=0->(r.1=2->(zx r b t).1=nU)/\(r.1≠2->(zx r b t).1.1=r.2.2.1/\bg b r.2.2.1=true/\bk (aO b r.2.2.1) (zx r b t).1.2.1=0)):=by
 obtain⟨c1,c2,c3,c4⟩:=Ue hc
 obtain⟨e1,e2,e3,e4⟩:=zjm c2
 unfold jQ at c4
 have hk:r.1=1\/r.1=2\/r.1=3\/r.1=4\/r.1=5:=by omega
 unfold zx
 rcases hk with k|k|k|k|k
 ·rw[zT k,zC] at c4⊢
  refine⟨fun h=>absurd rfl h,fun _=>⟨fun e=>by omega,fun _=>⟨rfl,e4 (by omega),?_⟩⟩⟩
  cases hw:lB (aO b r.2.2.1) (aO a r.2.1) with
  |false=>rw[hw] at c4;cases c4
  |true=>exact aeK ht hw (hv (e2 (by omega)))
 ·rw[zF (by omega:¬r.1=1),zT k,zD,zC]
  exact⟨fun h=>absurd rfl h,fun _=>⟨fun _=>rfl,fun e=>absurd k e⟩⟩
 ·rw[zF (by omega:¬r.1=1),zT k,zD,zC] at c4
  rw[zF (by omega:¬r.1=1),zF (by omega:¬r.1=2),zT k,zD,zD,zC]
  exact⟨fun h=>absurd rfl h,fun _=>⟨fun e=>by omega,fun _=>⟨rfl,e4 (by omega),c4⟩⟩⟩
 ·rw[zF (by omega:¬r.1=1),zF (by omega:¬r.1=3),zT k,zD,zD,zC] at c4
  rw[zF (by omega:¬r.1=1),zF (by omega:¬r.1=2),zF (by omega:¬r.1=3),zT k,zD,zD,zD,zC,e4 (by omega),Bool.not_true,zD]
  have hy:=Up hb (e4 (by omega))
  have hpd:ja (aO b r.2.2.1)=true:=by
   cases hp:(ja (aO a r.2.1)&&ja (aO b r.2.2.1)) with
   |false=>rw[hp] at c4;cases c4
   |true=>exact(Bool.and_eq_true_iff.1 hp).2
  obtain⟨y1,y2⟩:=aez hpd
  obtain⟨_,_,_,f4,f5,_⟩:=zrh hy
  cases hp:(eI t (aO b r.2.2.1).2.2.2.1).2 with
  |false=>exact⟨fun _=>⟨.inl ⟨k,rfl⟩,rfl⟩,fun e=>by cases e⟩
  |true=>
   obtain⟨p1,p2,p3,p4⟩:=Qa hp
   rw[Bool.not_true,zD]
   refine⟨fun h=>absurd rfl h,fun _=>⟨fun e=>by omega,fun _=>⟨rfl,rfl,?_⟩⟩⟩
   have:=f5 y2
   refine(H6 _ _ (by show(eI t (aO b r.2.2.1).2.2.2.1).1.size<=1099511627776;omega)).2 ⟨hy,?_,?_,?_,fun e=>by omega⟩
   ·show _<=((eI t (aO b r.2.2.1).2.2.2.1).1.size:Int);omega
   ·show((eI t (aO b r.2.2.1).2.2.2.1).1.size:Int)<=_;omega
   ·rw[y1,anW];exact p4
 ·rw[zF (by omega:¬r.1=1),zF (by omega:¬r.1=3),zF (by omega:¬r.1=4),zT k,zD,zD,zD,zC] at c4
  rw[zF (by omega:¬r.1=1),zF (by omega:¬r.1=2),zF (by omega:¬r.1=3),zF (by omega:¬r.1=4),zT k,zD,zD,zD,zD,zC]
  unfold Tu at c4
  cases hp:(zp r.2.2.2.2.1 t).2 with
  |false=>exact⟨fun _=>⟨.inr ⟨k,rfl⟩,rfl⟩,fun e=>by cases e⟩
  |true=>
   rw[Bool.not_true,zD]
   refine⟨fun h=>absurd rfl h,fun _=>⟨fun e=>by omega,fun _=>⟨rfl,e4 (by omega),?_⟩⟩⟩
   obtain⟨p,hm,_,hq⟩:=ze6 hp
   show bk _ (zp r.2.2.2.2.1 t).1=0
   rw[hq]
   cases hz:(!decide ((Be r.2.2.2.2.1).1=0)||decide ((r.2.2.2.2.1.length:Int)=0)) with
   |true=>rw[hz] at c4;cases c4
   |false=>rw[hz,zD] at c4;exact(NA c4 p hm).2
end bF

set_option profiler true
set_option profiler.threshold 2000
namespace bF
open Go.IntKind renaming wrap->zW,i64->zI,u8->zU
open Go Go.Ref
def b9(ae c:Int):Int:=if ae=2/\c=1 then 1 else if ae=1/\(c=5\/c=6) then 2 else 0
def hI(h:Int)(n:Nat):Nat:=if h=1 then(n+1)/2 else if h=2 then 2*n else n
def lj(h:Int)(t:ByteArray)(n:Int):Sum Int ByteArray:=if h=1 then(if(iL t n).2.1=0 then .inr (iL t n).1 else .inl (iL t n).2.1) else if h=2 then(if(z21 t).2.2=true then .inr (z21 t).1 else .inl 3) else .inr t
def jB(s:Spec)(z:Int):Sum Int ByteArray->ByteArray×Int×Int
 | .inl e=>(bs [],0,e)
 | .inr t=>if bk s t=0 then(t,z,0) else(bs [],0,bk s t)
def rH(h:Int)(s:Spec)(b:ByteArray)(n a:Nat):ByteArray×Int×Int:=
 if b.size<a+hI h n then(bs [],0,2) else jB s ((a+hI h n:Nat):Int) (lj h (b.extract a (a+hI h n)) n)
def zxz(ae:Int)(s:Spec)(b:ByteArray)(at_:Int):Sum Int (Nat×Nat):=
 if s.2.2.1=1 then .inr (s.2.2.2.1.toNat,at_.toNat) else if¬(io ae s.2.2.1 b at_).2.2=0 then .inl (io ae s.2.2.1 b at_).2.2 else
  if(io ae s.2.2.1 b at_).1<s.2.2.2.1\/s.2.2.2.2.1<(io ae s.2.2.1 b at_).1 then .inl 5 else .inr ((io ae s.2.2.1 b at_).1.toNat,(io ae s.2.2.1 b at_).2.1.toNat)
def zM(h:Int)(s:Spec)(b:ByteArray):Sum Int (Nat×Nat)->ByteArray×Int×Int
 | .inl e=>(bs [],0,e)
 | .inr q=>rH h s b q.1 q.2
def mP(ae:Int)(s:Spec)(b:ByteArray)(at_:Int):ByteArray×Int×Int:=
 if(ae=1\/ae=2)/\bp s=0/\0<=at_/\at_<=b.size then zM (b9 ae s.2.1) s b (zxz ae s b at_) else(bs [],0,1)
theorem zyj(ae c:Int):km ae c=some (b9 ae c):=by
 unfold km YH b9
 by_cases h1:ae=1<;>by_cases h2:ae=2<;>by_cases h3:c=1<;>by_cases h4:c=5<;>by_cases h5:c=6<;>(try(exfalso;omega))<;>simp [h1,h2,h3,h4,h5]
theorem Tn(ae c:Int):b9 ae c=0\/b9 ae c=1\/b9 ae c=2:=by
 unfold b9
 split
 ·exact .inr (.inl rfl)
 ·split
  ·exact .inr (.inr rfl)
  ·exact .inl rfl
theorem IC{s:Spec}(h:bp s=0):1<=s.2.1/\s.2.1<=6/\1<=s.2.2.1/\s.2.2.1<=3/\1<=s.2.2.2.1/\s.2.2.2.1<=s.2.2.2.2.1/\s.2.2.2.2.1<=999/\(s.2.2.1=2->s.2.2.2.2.1<=99)/\(s.2.2.1=1->s.2.2.2.1=s.2.2.2.2.1):=by
 unfold bp at h
 split at h
 ·cases h
 split at h
 ·cases h
 split at h
 ·cases h
 split at h
 ·cases h
 refine⟨by omega,by omega,by omega,by omega,by omega,by omega,by omega,fun e=>by omega,fun e=>by omega⟩
theorem Om:∀l:List Int,(eM l).length<=l.length
 | []=>by simp [eM]
 | [a]=>by simp [eM]
 |a::b::r=>by rw[eM,List.length_cons,List.length_cons,List.length_cons];have:=Om r;omega
theorem zr5(s:ByteArray):(z21 s).1.size<=s.size:=by
 unfold z21
 split
 ·exact Nat.zero_le _
 ·split
  ·exact Nat.zero_le _
  ·rw[lL,<-zg];exact Om _
theorem z173{ae form:Int}{b:ByteArray}{at_:Int}(h:(io ae form b at_).2.2=0):0<=(io ae form b at_).2.1/\(io ae form b at_).2.1<=b.size:=by
 unfold io at h⊢
 cases hk:(eK ae form&&decide (0<=at_/\at_<=(b.size:Int))) with
 |false=>rw[hk] at h;cases h
 |true=>
  rw[hk] at h
  simp only[zC] at h⊢
  split
  ·exact⟨Int.le_refl _,Int.natCast_nonneg _⟩
  ·rename_i hs
   split
   ·dsimp only;exact⟨by omega,by omega⟩
   ·exact⟨Int.le_refl _,Int.natCast_nonneg _⟩
def jA(dV:Int)(kj:Spec)(lH:ByteArray)(n a:Int):Option iT:=
 let K:ByteArray->Int->Int->Option iT:=fun a0 a1 a2=>some (a0,a1,a2)
 ((km dV kj.2.1).bind fun r4=>(bif(decide (r4=(1:Int))) then((Q2 n).bind fun r5=>(bif(decide ((zW zI (((lH).size:Int)-a))<r5)) then(K (bs []) (0:Int) (2:Int)) else(bif(decide ((0:Int)<=(zW zI (a+r5)))) then(bif(decide ((zW zI (a+r5))<=(((lH).size:Nat):Int))) then(bif(decide ((0:Int)<=a)) then(bif(decide (a<=((((zW zI (a+r5))).toNat:Nat):Int))) then((km dV kj.2.1).bind fun r6=>(bif(decide (r6=(1:Int))) then((Q0 ((lH).extract (a).toNat ((zW zI (a+r5))).toNat) n).bind fun r7=>(bif(!(decide (r7.2.1=(0:Int)))) then(K (bs []) (0:Int) r7.2.1) else((bH kj r7.1).bind fun r8=>(bif(!(decide (r8=(0:Int)))) then(K (bs []) (0:Int) r8) else(K r7.1 (zW zI (a+r5)) (0:Int)))))) else(bif(decide (r6=(2:Int))) then((fZ ((lH).extract (a).toNat ((zW zI (a+r5))).toNat)).bind fun r9=>(bif(!r9.2.2) then(K (bs []) (0:Int) (3:Int)) else((bH kj r9.1).bind fun j6=>(bif(!(decide (j6=(0:Int)))) then(K (bs []) (0:Int) j6) else(K r9.1 (zW zI (a+r5)) (0:Int)))))) else((bH kj ((lH).extract (a).toNat ((zW zI (a+r5))).toNat)).bind fun jV=>(bif(!(decide (jV=(0:Int)))) then(K (bs []) (0:Int) jV) else(K ((lH).extract (a).toNat ((zW zI (a+r5))).toNat) (zW zI (a+r5)) (0:Int))))))) else none) else none) else none) else none))) else(bif(decide (r4=(2:Int))) then(bif(decide ((zW zI (((lH).size:Int)-a))<(zW zI ((2:Int)*n)))) then(K (bs []) (0:Int) (2:Int)) else(bif(decide ((0:Int)<=(zW zI (a+(zW zI ((2:Int)*n)))))) then(bif(decide ((zW zI (a+(zW zI ((2:Int)*n))))<=(((lH).size:Nat):Int))) then(bif(decide ((0:Int)<=a)) then(bif(decide (a<=((((zW zI (a+(zW zI ((2:Int)*n))))).toNat:Nat):Int))) then((km dV kj.2.1).bind fun lv=>(bif(decide (lv=(1:Int))) then((Q0 ((lH).extract (a).toNat ((zW zI (a+(zW zI ((2:Int)*n))))).toNat) n).bind fun jW=>(bif(!(decide (jW.2.1=(0:Int)))) then(K (bs []) (0:Int) jW.2.1) else((bH kj jW.1).bind fun uM=>(bif(!(decide (uM=(0:Int)))) then(K (bs []) (0:Int) uM) else(K jW.1 (zW zI (a+(zW zI ((2:Int)*n)))) (0:Int)))))) else(bif(decide (lv=(2:Int))) then((fZ ((lH).extract (a).toNat ((zW zI (a+(zW zI ((2:Int)*n))))).toNat)).bind fun xg=>(bif(!xg.2.2) then(K (bs []) (0:Int) (3:Int)) else((bH kj xg.1).bind fun Ck=>(bif(!(decide (Ck=(0:Int)))) then(K (bs []) (0:Int) Ck) else(K xg.1 (zW zI (a+(zW zI ((2:Int)*n)))) (0:Int)))))) else((bH kj ((lH).extract (a).toNat ((zW zI (a+(zW zI ((2:Int)*n))))).toNat)).bind fun Cl=>(bif(!(decide (Cl=(0:Int)))) then(K (bs []) (0:Int) Cl) else(K ((lH).extract (a).toNat ((zW zI (a+(zW zI ((2:Int)*n))))).toNat) (zW zI (a+(zW zI ((2:Int)*n)))) (0:Int))))))) else none) else none) else none) else none)) else(bif(decide ((zW zI (((lH).size:Int)-a))<n)) then(K (bs []) (0:Int) (2:Int)) else(bif(decide ((0:Int)<=(zW zI (a+n)))) then(bif(decide ((zW zI (a+n))<=(((lH).size:Nat):Int))) then(bif(decide ((0:Int)<=a)) then(bif(decide (a<=((((zW zI (a+n))).toNat:Nat):Int))) then((km dV kj.2.1).bind fun Cm=>(bif(decide (Cm=(1:Int))) then((Q0 ((lH).extract (a).toNat ((zW zI (a+n))).toNat) n).bind fun tZ=>(bif(!(decide (tZ.2.1=(0:Int)))) then(K (bs []) (0:Int) tZ.2.1) else((bH kj tZ.1).bind fun Cn=>(bif(!(decide (Cn=(0:Int)))) then(K (bs []) (0:Int) Cn) else(K tZ.1 (zW zI (a+n)) (0:Int)))))) else(bif(decide (Cm=(2:Int))) then((fZ ((lH).extract (a).toNat ((zW zI (a+n))).toNat)).bind fun xh=>(bif(!xh.2.2) then(K (bs []) (0:Int) (3:Int)) else((bH kj xh.1).bind fun L5=>(bif(!(decide (L5=(0:Int)))) then(K (bs []) (0:Int) L5) else(K xh.1 (zW zI (a+n)) (0:Int)))))) else((bH kj ((lH).extract (a).toNat ((zW zI (a+n))).toNat)).bind fun L6=>(bif(!(decide (L6=(0:Int)))) then(K (bs []) (0:Int) L6) else(K ((lH).extract (a).toNat ((zW zI (a+n))).toNat) (zW zI (a+n)) (0:Int))))))) else none) else none) else none) else none)))))
theorem an4(ae:Int)(s:Spec)(b:ByteArray)(n a:Nat)(hb:b.size<=1099511627776)(hn:n<=999)(ha:a<=b.size)(hh:b9 ae s.2.1=0):jA ae s b n a=some (rH (b9 ae s.2.1) s b n a):=by
 unfold jA
 simp only[zyj,zc]
 have w0:zW zI ((b.size:Int)-(a:Int))=(b.size:Int)-a:=zi (by omega) (by omega)
 have w1:∀z:Nat,z<=2000->zW zI ((a:Int)+(z:Int))=((a+z:Nat):Int):=fun z hz=>by rw[zi (by omega) (by omega)];omega
 have hx:∀z:Nat,((a+z:Nat):Int).toNat=a+z:=fun z=>Int.toNat_natCast _
 have tu:∀z:Nat,(b.extract a (a+z)).size<=1099511627776:=fun z=>by rw[ByteArray.size_extract];omega
 rw[hh]
 simp only[Int.reduceEq,decide_true,decide_false,zC,zD,w0,w1 n (by omega),hx,Int.toNat_natCast]
 unfold rH hI lj
 simp only[show¬((0:Int)=1) from by decide,show¬((0:Int)=2) from by decide,if_false]
 split
 ·rename_i hc
  rw[zT (by omega),zC]
 ·rename_i hc
  rw[zF (by omega),zD,zT (by omega),zC,zT (by omega),zC,zT (by omega),zC,zT (by omega),zC,uR _ _ (tu n),zc]
  unfold jB
  by_cases hv:bk s (b.extract a (a+n))=0
  ·simp only[hv,decide_true,Bool.not_true,zD,if_true]
  ·simp only[hv,decide_false,Bool.not_false,zC,if_false]
theorem an5(ae:Int)(s:Spec)(b:ByteArray)(n a:Nat)(hb:b.size<=1099511627776)(hn:n<=999)(ha:a<=b.size)(hh:b9 ae s.2.1=1):jA ae s b n a=some (rH (b9 ae s.2.1) s b n a):=by
 unfold jA
 simp only[zyj,zc]
 have w0:zW zI ((b.size:Int)-(a:Int))=(b.size:Int)-a:=zi (by omega) (by omega)
 have w1:∀z:Nat,z<=2000->zW zI ((a:Int)+(z:Int))=((a+z:Nat):Int):=fun z hz=>by rw[zi (by omega) (by omega)];omega
 have hx:∀z:Nat,((a+z:Nat):Int).toNat=a+z:=fun z=>Int.toNat_natCast _
 have tu:∀z:Nat,(b.extract a (a+z)).size<=1099511627776:=fun z=>by rw[ByteArray.size_extract];omega
 rw[hh]
 have ez:((n:Int)+1)/2=(((n+1)/2:Nat):Int):=by omega
 simp only[Int.reduceEq,decide_true,decide_false,zC,zD,Rp (n:Int) (by omega) (by omega),zc,ez]
 simp only[w0,w1 ((n+1)/2) (by omega),hx,Int.toNat_natCast,Int.reduceEq,decide_true,decide_false,zC,zD]
 unfold rH hI lj
 simp only[if_true]
 split
 ·rename_i hc
  rw[zT (by omega),zC]
 ·rename_i hc
  rw[zF (by omega),zD,zT (by omega),zC,zT (by omega),zC,zT (by omega),zC,zT (by omega),zC,ziz _ _ (tu _),zc]
  generalize hg:iL (b.extract a (a+(n+1)/2)) (n:Int)=g
  obtain⟨t,e,i⟩:=g
  have gP:=Rk hg
  dsimp only
  by_cases he:e=0
  ·rw[zT he,Bool.not_true,zD,if_pos he,uR _ _ (by omega),zc]
   unfold jB
   by_cases hv:bk s t=0
   ·simp only[hv,decide_true,Bool.not_true,zD,if_true]
   ·simp only[hv,decide_false,Bool.not_false,zC,if_false]
  ·rw[zF he,Bool.not_false,zC,if_neg he];rfl
theorem an6(ae:Int)(s:Spec)(b:ByteArray)(n a:Nat)(hb:b.size<=1099511627776)(hn:n<=999)(ha:a<=b.size)(hh:b9 ae s.2.1=2):jA ae s b n a=some (rH (b9 ae s.2.1) s b n a):=by
 unfold jA
 simp only[zyj,zc]
 have w0:zW zI ((b.size:Int)-(a:Int))=(b.size:Int)-a:=zi (by omega) (by omega)
 have w1:∀z:Nat,z<=2000->zW zI ((a:Int)+(z:Int))=((a+z:Nat):Int):=fun z hz=>by rw[zi (by omega) (by omega)];omega
 have hx:∀z:Nat,((a+z:Nat):Int).toNat=a+z:=fun z=>Int.toNat_natCast _
 have tu:∀z:Nat,(b.extract a (a+z)).size<=1099511627776:=fun z=>by rw[ByteArray.size_extract];omega
 rw[hh]
 have ez:zW zI ((2:Int)*(n:Int))=((2*n:Nat):Int):=by rw[zi (by omega) (by omega)];omega
 simp only[Int.reduceEq,decide_true,decide_false,zD,zC]
 rw[ez]
 simp only[w0,w1 (2*n) (by omega),hx,Int.toNat_natCast,Int.reduceEq,decide_true,decide_false,zC,zD]
 unfold rH hI lj
 simp only[show¬((2:Int)=1) from by decide,if_false,if_true]
 split
 ·rename_i hc
  rw[zT (by omega),zC]
 ·rename_i hc
  rw[zF (by omega),zD,zT (by omega),zC,zT (by omega),zC,zT (by omega),zC,zT (by omega),zC,zyh _ (tu _),zc]
  have gP:=zr5 (b.extract a (a+2*n))
  have h3:=tu (2*n)
  generalize z21 (b.extract a (a+2*n))=g at gP
  obtain⟨t,i,ok⟩:=g
  dsimp only at gP⊢
  cases ok with
  |true=>
   rw[Bool.not_true,zD,if_pos rfl,uR _ _ (by omega),zc]
   unfold jB
   by_cases hv:bk s t=0
   ·simp only[hv,decide_true,Bool.not_true,zD,if_true]
   ·simp only[hv,decide_false,Bool.not_false,zC,if_false]
  |false=>rw[Bool.not_false,zC,if_neg (by decide)];rfl
theorem N2(ae:Int)(s:Spec)(b:ByteArray)(n a:Nat)(hb:b.size<=1099511627776)(hn:n<=999)(ha:a<=b.size):jA ae s b n a=some (rH (b9 ae s.2.1) s b n a):=by
 rcases Tn ae s.2.1 with hh|hh|hh
 ·exact an4 ae s b n a hb hn ha hh
 ·exact an5 ae s b n a hb hn ha hh
 ·exact an6 ae s b n a hb hn ha hh
theorem ad8(ae:Int)(s:Spec)(b:ByteArray)(at_:Int)(hb:b.size<=1099511627776):Jd ae s b at_=some (mP ae s b at_):=by
 have hk:Bk ae=some (decide (ae=1\/ae=2)):=by
  unfold Bk SN
  by_cases h1:ae=1
  ·rw[zT (p:=ae=1\/ae=2) (.inl h1),zT h1];rfl
  ·rw[zF h1,zD]
   by_cases h2:ae=2
   ·rw[zT (p:=ae=1\/ae=2) (.inr h2),zT h2]
   ·rw[zF (p:=ae=1\/ae=2) (fun h=>h.elim h1 h2),zF h2]
 unfold Jd Yz mP
 rw[hk,zc]
 by_cases h1:ae=1\/ae=2
 case neg=>rw[zF h1,if_neg (fun h=>h1 h.1)];rfl
 rw[zT h1,Bool.not_true,zD,Rj,zc]
 by_cases h2:bp s=0
 case neg=>rw[zF h2,if_neg (fun h=>h2 h.2.1)];rfl
 rw[zT h2,Bool.not_true,zD]
 by_cases h3:at_<0
 ·rw[zT h3,if_neg (fun h=>by omega)];rfl
 rw[zF h3,zD]
 by_cases h4:(b.size:Int)<at_
 ·rw[zT h4,if_neg (fun h=>by omega)];rfl
 rw[zF h4,zD,if_pos ⟨h1,h2,by omega,by omega⟩]
 obtain⟨k1,k2,k3,k4,k5,k6,k7,k8,k9⟩:=IC h2
 obtain⟨m,rfl⟩:∃m:Nat,at_=m:=⟨at_.toNat,by omega⟩
 unfold zxz
 by_cases h5:s.2.2.1=1
 ·rw[zT h5,Bool.not_true,zD,if_pos h5]
  have:=N2 ae s b s.2.2.2.1.toNat m hb (by omega) (by omega)
  rw[Int.toNat_of_nonneg (by omega)] at this
  exact this
 ·rw[zF h5,Bool.not_false,zC,if_neg h5,ahQ _ _ _ _ hb,zc]
  by_cases h6:(io ae s.2.2.1 b m).2.2=0
  case neg=>rw[zF h6,if_pos h6];rfl
  rw[zT h6,Bool.not_true,zD,if_neg (fun h=>h h6)]
  have hp:=z173 h6
  by_cases h7:(io ae s.2.2.1 b m).1<s.2.2.2.1
  ·rw[zT h7,if_pos (.inl h7)];rfl
  rw[zF h7,zD]
  by_cases h8:s.2.2.2.2.1<(io ae s.2.2.1 b m).1
  ·rw[zT h8,if_pos (.inr h8)];rfl
  rw[zF h8,zD,if_neg (fun h=>h.elim h7 h8)]
  have:=N2 ae s b (io ae s.2.2.1 b m).1.toNat (io ae s.2.2.1 b m).2.1.toNat hb (by omega) (by omega)
  rw[Int.toNat_of_nonneg (by omega),Int.toNat_of_nonneg (by omega)] at this
  exact this
theorem LF{ae c:Int}(h:b9 ae c=1):ae=2/\c=1:=by
 unfold b9 at h
 split at h
 ·assumption
 ·split at h<;>cases h
theorem LG{ae c:Int}(h:b9 ae c=2):ae=1/\(c=5\/c=6):=by
 unfold b9 at h
 split at h
 ·cases h
 ·split at h
  ·assumption
  ·cases h
theorem LD{ae c:Int}(h:b9 ae c=0)(hs:ae=1\/ae=2)(hc:c<=6):(ae=1/\¬5<=c)\/(ae=2/\¬c=1):=by
 unfold b9 at h
 split at h
 ·cases h
 ·split at h
  ·cases h
  ·omega
theorem Aq(ae:Int)(s:Spec)(b:ByteArray)(n a:Nat)(hb:b.size<=1099511627776)(hn:n<=999)(ha:a<=b.size)(hs:ae=1\/ae=2)(hc:s.2.1<=6):ux ae b a n s=some (rH (b9 ae s.2.1) s b n a):=by
 have w0:zW zI ((b.size:Int)-(a:Int))=(b.size:Int)-a:=zi (by omega) (by omega)
 have w1:∀z:Nat,z<=2000->zW zI ((a:Int)+(z:Int))=((a+z:Nat):Int):=fun z hz=>by rw[zi (by omega) (by omega)];omega
 have hx:∀z:Nat,((a+z:Nat):Int).toNat=a+z:=fun z=>Int.toNat_natCast _
 have tu:∀z:Nat,(b.extract a (a+z)).size<=1099511627776:=fun z=>by rw[ByteArray.size_extract];omega
 have ez:zW zI ((n:Int)+(n:Int))=((2*n:Nat):Int):=by rw[zi (by omega) (by omega)];omega
 have e1:zW zI ((n:Int)+1)=((n+1:Nat):Int):=by rw[zi (by omega) (by omega)];omega
 have e2:Int.tdiv ((n+1:Nat):Int) 2=(((n+1)/2:Nat):Int):=rfl
 have e3:zW zI (((n+1)/2:Nat):Int)=(((n+1)/2:Nat):Int):=zi (by omega) (by omega)
 unfold rH hI lj
 rcases Tn ae s.2.1 with hh|hh|hh
 ·have key:ux ae b a n s=bif decide ((b.size:Int)-a<(n:Int)) then some (bs [],0,2) else bif decide ((0:Int)<=((a+n:Nat):Int)) then bif decide (((a+n:Nat):Int)<=(b.size:Int)) then bif decide ((0:Int)<=(a:Int)) then bif decide ((a:Int)<=((a+n:Nat):Int)) then(iQ s (b.extract a (a+n))).bind fun r6=>bif !(decide (r6=(0:Int))) then some (bs [],0,r6) else some (b.extract a (a+n),((a+n:Nat):Int),0) else none else none else none else none:=by
   rcases LD hh hs hc with⟨h1,h2⟩|⟨h1,h2⟩
   ·subst h1
    simp only[ux,IW,IX,IY,IZ,Iu,z91,Iv,GX,z93,Iw,GY,Ix,xP,xQ,xR,xS,GZ,xI,G0,G1,xJ,G2,G3,G4,G5,Int.reduceEq,decide_true,decide_false,zC,zD,h2,w0,w1 n (by omega),hx,Int.toNat_natCast]
   ·subst h1
    simp only[ux,IW,IX,IY,IZ,Iu,z91,Iv,GX,z93,Iw,GY,Ix,xP,xQ,xR,xS,GZ,xI,G0,G1,xJ,G2,G3,G4,G5,Int.reduceEq,decide_true,decide_false,zC,zD,h2,w0,w1 n (by omega),hx,Int.toNat_natCast]
  rw[key,hh]
  simp only[Int.reduceEq,if_false]
  split
  ·rename_i hc
   rw[zT (by omega),zC]
  ·rename_i hc
   rw[zF (by omega),zD,zT (by omega),zC,zT (by omega),zC,zT (by omega),zC,zT (by omega),zC,ur _ _ (tu n),zc]
   unfold jB
   by_cases hv:bk s (b.extract a (a+n))=0
   ·simp only[hv,decide_true,Bool.not_true,zD,if_true]
   ·simp only[hv,decide_false,Bool.not_false,zC,if_false]
 ·have key:ux ae b a n s=bif decide ((b.size:Int)-a<(((n+1)/2:Nat):Int)) then some (bs [],0,2) else bif decide ((0:Int)<=((a+(n+1)/2:Nat):Int)) then bif decide (((a+(n+1)/2:Nat):Int)<=(b.size:Int)) then bif decide ((0:Int)<=(a:Int)) then bif decide ((a:Int)<=((a+(n+1)/2:Nat):Int)) then(rl (b.extract a (a+(n+1)/2)) n).bind fun r4=>bif !(decide (r4.2.1=(0:Int))) then some (bs [],0,r4.2.1) else(iQ s r4.1).bind fun r6=>bif !(decide (r6=(0:Int))) then some (bs [],0,r6) else some (r4.1,((a+(n+1)/2:Nat):Int),0) else none else none else none else none:=by
   obtain⟨h1,h2⟩:=LF hh
   subst h1
   simp only[ux,IW,IX,IY,IZ,Iu,z91,Iv,GX,z93,Iw,GY,Ix,xP,xQ,xR,xS,GZ,xI,G0,G1,xJ,G2,G3,G4,G5,Int.reduceEq,decide_true,decide_false,zC,zD,h2,w0,e1,e2,e3,w1 ((n+1)/2) (by omega),hx,Int.toNat_natCast]
  rw[key,hh]
  simp only[if_true]
  split
  ·rename_i hc
   rw[zT (by omega),zC]
  ·rename_i hc
   rw[zF (by omega),zD,zT (by omega),zC,zT (by omega),zC,zT (by omega),zC,zT (by omega),zC,zrm _ _ (tu _),zc]
   generalize hg:iL (b.extract a (a+(n+1)/2)) (n:Int)=g
   obtain⟨t,e,i⟩:=g
   have gP:=Rk hg
   dsimp only
   by_cases he:e=0
   ·rw[zT he,Bool.not_true,zD,if_pos he,ur _ _ (by omega),zc]
    unfold jB
    by_cases hv:bk s t=0
    ·simp only[hv,decide_true,Bool.not_true,zD,if_true]
    ·simp only[hv,decide_false,Bool.not_false,zC,if_false]
   ·rw[zF he,Bool.not_false,zC,if_neg he];rfl
 ·have key:ux ae b a n s=bif decide ((b.size:Int)-a<((2*n:Nat):Int)) then some (bs [],0,2) else bif decide ((0:Int)<=((a+2*n:Nat):Int)) then bif decide (((a+2*n:Nat):Int)<=(b.size:Int)) then bif decide ((0:Int)<=(a:Int)) then bif decide ((a:Int)<=((a+2*n:Nat):Int)) then(yc (b.extract a (a+2*n))).bind fun r5=>bif !r5.2.2 then some (bs [],0,3) else(iQ s r5.1).bind fun r6=>bif !(decide (r6=(0:Int))) then some (bs [],0,r6) else some (r5.1,((a+2*n:Nat):Int),0) else none else none else none else none:=by
   obtain⟨h1,h2⟩:=LG hh
   have h3:5<=s.2.1:=by omega
   subst h1
   simp only[ux,IW,IX,IY,IZ,Iu,z91,Iv,GX,z93,Iw,GY,Ix,xP,xQ,xR,xS,GZ,xI,G0,G1,xJ,G2,G3,G4,G5,Int.reduceEq,decide_true,decide_false,zC,zD,h3,w0,ez,w1 (2*n) (by omega),hx,Int.toNat_natCast]
  rw[key,hh]
  simp only[Int.reduceEq,if_false,if_true]
  split
  ·rename_i hc
   rw[zT (by omega),zC]
  ·rename_i hc
   rw[zF (by omega),zD,zT (by omega),zC,zT (by omega),zC,zT (by omega),zC,zT (by omega),zC,NG _ (tu _),zc]
   have gP:=zr5 (b.extract a (a+2*n))
   have h3:=tu (2*n)
   generalize z21 (b.extract a (a+2*n))=g at gP
   obtain⟨t,i,ok⟩:=g
   dsimp only at gP⊢
   cases ok with
   |true=>
    rw[Bool.not_true,zD,if_pos rfl,ur _ _ (by omega),zc]
    unfold jB
    by_cases hv:bk s t=0
    ·simp only[hv,decide_true,Bool.not_true,zD,if_true]
    ·simp only[hv,decide_false,Bool.not_false,zC,if_false]
   |false=>rw[Bool.not_false,zC,if_neg (by decide)];rfl
theorem aiz(ae:Int)(s:Spec)(b:ByteArray)(at_:Int)(hb:b.size<=1099511627776):HA ae s b at_=some (mP ae s b at_):=by
 have hk:HA ae s b at_=bif decide ((ae=1\/ae=2)/\bp s=0/\0<=at_/\at_<=b.size) then zxk ae b at_ s else some (bs [],0,1):=by
  unfold HA I0
  simp only[um,zc]
  by_cases h1:ae=1<;>by_cases h2:ae=2<;>by_cases h3:bp s=0<;>by_cases h4:at_<0<;>by_cases h5:(b.size:Int)<at_<;>(try(exfalso;omega))<;>simp [h1,h2,h3,h4,h5,F7,zxl]
  all_goals(try omega)
  all_goals first
   |(rw[zT (by omega),zT (by omega)];rfl)
   |(rw[zF (by omega)];rfl)
   |(rw[zT (by omega),zF (by omega)];rfl)
 rw[hk]
 unfold mP
 by_cases h0:(ae=1\/ae=2)/\bp s=0/\0<=at_/\at_<=(b.size:Int)
 case neg=>rw[zF h0,if_neg h0];rfl
 rw[zT h0,zC,if_pos h0]
 obtain⟨h1,h2,h3,h4⟩:=h0
 obtain⟨k1,k2,k3,k4,k5,k6,k7,k8,k9⟩:=IC h2
 obtain⟨m,rfl⟩:∃m:Nat,at_=m:=⟨at_.toNat,by omega⟩
 unfold zxk zxm zxz
 by_cases h5:s.2.2.1=1
 ·rw[zT h5,Bool.not_true,zD,if_pos h5]
  have:=Aq ae s b s.2.2.2.1.toNat m hb (by omega) (by omega) h1 k2
  rw[Int.toNat_of_nonneg (by omega),k9 h5] at this
  rw[k9 h5]
  exact this
 ·rw[zF h5,Bool.not_false,zC,if_neg h5,aiy _ _ _ _ hb,zc]
  by_cases h6:(io ae s.2.2.1 b m).2.2=0
  case neg=>rw[zF h6,if_pos h6];rfl
  rw[zT h6,Bool.not_true,zD,if_neg (fun h=>h h6)]
  have hp:=z173 h6
  unfold F8 I1 F9 zxn Ga zxo
  dsimp only
  by_cases h7:(io ae s.2.2.1 b m).1<s.2.2.2.1
  ·rw[zT h7,if_pos (.inl h7)];rfl
  rw[zF h7,zD]
  by_cases h8:s.2.2.2.2.1<(io ae s.2.2.1 b m).1
  ·rw[zT h8,if_pos (.inr h8)];rfl
  rw[zF h8,zD,if_neg (fun h=>h.elim h7 h8)]
  have:=Aq ae s b (io ae s.2.2.1 b m).1.toNat (io ae s.2.2.1 b m).2.1.toNat hb (by omega) (by omega) h1 k2
  rw[Int.toNat_of_nonneg (by omega),Int.toNat_of_nonneg (by omega)] at this
  exact this
def iU(h:Int)(t:ByteArray):ByteArray:=if h=1 then(mX t).1 else if h=2 then rf t else t
def jc(ae form:Int)(n:Nat):ByteArray:=if form=1 then bs [] else(xV ae form n).1
def rJ(ae:Int)(s:Spec)(t:ByteArray):ByteArray×Int:=
 if¬(ae=1\/ae=2) then(bs [],1) else if¬bk s t=0 then(bs [],bk s t) else(jc ae s.2.2.1 t.size++iU (b9 ae s.2.1) t,0)
theorem zj1(t:ByteArray):(mX t).1.size<=500:=by
 by_cases h:t.size<=999/\bh (bl t)=true
 ·rw[zaw h.1 h.2];omega
 ·unfold mX;rw[zF h];exact Nat.zero_le _
theorem zk6(ae form:Int)(n:Nat):(jc ae form n).size<=500:=by
 unfold jc xV
 split
 ·exact Nat.zero_le _
 ·cases eK ae form with
  |false=>exact Nat.zero_le _
  |true=>
   cases(gX (n:Int) form).2 with
   |false=>exact Nat.zero_le _
   |true=>
    show(if ae=2 then _ else _:ByteArray).size<=500
    split
    ·exact zj1 _
    ·have:=zk7 (n:Int) form;omega
theorem zjc(h:Int)(t:ByteArray):(iU h t).size<=2*t.size+500:=by
 unfold iU
 split
 ·have:=zj1 t;omega
 ·split
  ·rw[zb6];omega
  ·omega
theorem Gb(x:ByteArray):bs []++x=x:=by
 apply ByteArray.ext
 simp [ByteArray.data_append,bs]
theorem aeb(ae c:Int)(t:ByteArray)(hs:ae=1\/ae=2)(hc:c<=6)(ht:t.size<=1099511627776):j9 ae c t=some (iU (b9 ae c) t):=by
 unfold j9 UL iU b9
 have hp:=zro t (by simp only[maxLen];omega)
 have hq:=NI t ht
 rcases hs with rfl|rfl
 ·by_cases h5:(5:Int)<=c
  ·have:c=5\/c=6:=by omega
   simp [h5,hq,this]
  ·have h6:¬(c=5\/c=6):=by omega
   simp [h5,h6]
 ·by_cases h1:c=1
  ·simp [h1,hp]
  ·simp [h1]
theorem aiE(ae:Int)(s:Spec)(t:ByteArray)(ht:t.size<=1099511627776):Bu ae s t=some (rJ ae s t):=by
 have key:ae=1\/ae=2->(iQ s t).bind (fun r1=>(bif(!(decide (r1=(0:Int)))) then some (bs [],r1) else(bif(!(decide (s.2.2.1=(1:Int)))) then((Bs ae s.2.2.1 ((t).size:Int)).bind fun r2=>((j9 ae s.2.1 t).bind fun r3=>(bif decide ((r2.1).size+(r3).size<=9223372036854775807) then some (r2.1++r3,(0:Int)) else none))) else((j9 ae s.2.1 t).bind fun r4=>(bif decide (((bs [])).size+(r4).size<=9223372036854775807) then some ((bs [])++r4,(0:Int)) else none)))))=some (rJ ae s t):=fun hs=>by
  unfold rJ
  rw[ur s t ht,zc,if_neg (fun h=>h hs)]
  by_cases hv:bk s t=0
  case neg=>rw[zF hv,if_pos hv];rfl
  rw[zT hv,Bool.not_true,zD,if_neg (fun h=>h hv)]
  have hk:=IC ((H6 s t ht).1 hv).1
  have dR:=zjc (b9 ae s.2.1) t
  have jK:=zk6 ae s.2.2.1 t.size
  rw[aeb ae s.2.1 t hs (by omega) ht]
  simp only[zc]
  by_cases h1:s.2.2.1=1
  ·rw[zT h1,Bool.not_true,zD,zT (by show 0+_<=_;omega),zC]
   unfold jc
   rw[if_pos h1]
  ·unfold jc at jK⊢
   rw[if_neg h1] at jK
   rw[zF h1,Bool.not_false,zC,aiD _ _ _ (by omega),zc,zT (by omega),zC,if_neg h1]
 unfold Bu zxp
 by_cases h1:ae=1
 ·rw[zT h1,Bool.not_true,zD]
  exact key (.inl h1)
 ·rw[zF h1,Bool.not_false,zC]
  by_cases h2:ae=2
  ·rw[zT h2,Bool.not_true,zD]
   exact key (.inr h2)
  ·rw[zF h2,Bool.not_false,zC]
   unfold rJ
   rw[if_pos (fun h=>h.elim h1 h2)]
theorem ad9(ae:Int)(s:Spec)(t:ByteArray)(ht:t.size<=1099511627776):Bj ae s t=some (rJ ae s t):=by
 unfold Bj YE Bk SN rJ
 have dR:=zjc (b9 ae s.2.1) t
 have jK:=zk6 ae s.2.2.1 t.size
 have main:ae=1\/ae=2->(bH s t).bind (fun r2=>(bif(!(decide (r2=(0:Int)))) then some (bs [],r2) else(bif(!(decide (s.2.2.1=(1:Int)))) then((qs ae s.2.2.1 ((t).size:Int)).bind fun r3=>((km ae s.2.1).bind fun r4=>(bif(decide (r4=(1:Int))) then((Q1 t).bind fun r5=>(bif decide ((r3.1).size+(r5.1).size<=9223372036854775807) then some (r3.1++r5.1,(0:Int)) else none)) else(bif(decide (r4=(2:Int))) then((jk t).bind fun r6=>(bif decide ((r3.1).size+(r6).size<=9223372036854775807) then some (r3.1++r6,(0:Int)) else none)) else(bif decide ((r3.1).size+(t).size<=9223372036854775807) then some (r3.1++t,(0:Int)) else none))))) else((km ae s.2.1).bind fun r7=>(bif(decide (r7=(1:Int))) then((Q1 t).bind fun r8=>(bif decide (((bs [])).size+(r8.1).size<=9223372036854775807) then some ((bs [])++r8.1,(0:Int)) else none)) else(bif(decide (r7=(2:Int))) then((jk t).bind fun r9=>(bif decide (((bs [])).size+(r9).size<=9223372036854775807) then some ((bs [])++r9,(0:Int)) else none)) else(bif decide (((bs [])).size+(t).size<=9223372036854775807) then some ((bs [])++t,(0:Int)) else none)))))))=some (if¬bk s t=0 then(bs [],bk s t) else(jc ae s.2.2.1 t.size++iU (b9 ae s.2.1) t,0)):=fun hs=>by
  rw[uR s t ht,zc]
  by_cases hv:bk s t=0
  case neg=>rw[zF hv,if_pos hv];rfl
  rw[zT hv,Bool.not_true,zD,if_neg (fun h=>h hv)]
  simp only[zyj,zc,ahS _ _ _ (show(t.size:Int)<=9223372036854775807 by omega),zj0 t (by simp only[maxLen];omega),zyi t ht]
  have hz:(bs []).size=0:=rfl
  by_cases h1:s.2.2.1=1
  ·rw[zT h1,Bool.not_true,zD]
   unfold jc
   rw[if_pos h1]
   unfold iU at dR⊢
   rcases Tn ae s.2.1 with hh|hh|hh<;>rw[hh] at dR⊢ <;>simp only[Int.reduceEq,decide_true,decide_false,zC,zD,if_true,if_false] at dR⊢
   all_goals rw[zT (by omega),zC]
  ·rw[zF h1,Bool.not_false,zC]
   unfold jc at jK⊢
   rw[if_neg h1] at jK⊢
   unfold iU at dR⊢
   rcases Tn ae s.2.1 with hh|hh|hh<;>rw[hh] at dR⊢ <;>simp only[Int.reduceEq,decide_true,decide_false,zC,zD,if_true,if_false] at dR⊢
   all_goals rw[zT (by omega),zC]
 by_cases h1:ae=1
 ·rw[zT h1,zC,zc,Bool.not_true,zD,if_neg (fun h=>h (.inl h1))]
  exact main (.inl h1)
 ·rw[zF h1,zD,zc]
  by_cases h2:ae=2
  ·rw[zT h2,Bool.not_true,zD,if_neg (fun h=>h (.inr h2))]
   exact main (.inr h2)
  ·rw[zF h2,if_pos (fun h=>h.elim h1 h2)];rfl
theorem aof(x p y:ByteArray):(x++p++y).extract x.size (x.size+p.size)=p:=by
 apply vi
 rw[uP,z28,z28,List.append_assoc,<-zg,<-zg,List.take_append,List.drop_append_of_le_length (by simp),]
 simp
theorem z31(x y:ByteArray):(x++y).size=x.size+y.size:=ByteArray.size_append ..
theorem PR(b:ByteArray){i j k:Nat}(h:i<=j)(h2:j<=k):b.extract i j++b.extract j k=b.extract i k:=by
 apply vi
 rw[z28,uP,uP,uP]
 generalize bl b=l
 have e1:l.take j=(l.take k).take j:=by rw[List.take_take];congr 1;omega
 rw[e1]
 generalize l.take k=q
 rw[<-List.take_append_drop (j-i) (q.drop i),List.drop_take,List.drop_drop,show i+(j-i)=j by omega]
theorem MX{s:ByteArray}{n:Int}(h:cW (bl s)=(n,true)):gX n s.size=(s,true)/\0<=n:=by
 unfold cW at h
 split at h
 ·rename_i hc
  obtain⟨h1,h2,h3⟩:=hc
  have hv:c8 (bl s) 0=n:=congrArg Prod.fst h
  have hn:=(zza (bl s) 0 0 h3 (Int.le_refl _) (by simp) (by omega)).1
  rw[hv] at hn
  obtain⟨e1,e2⟩:=ztd (bl s).length n.toNat (bl s) h3 rfl (by rw[hv,Int.toNat_of_nonneg hn])
  rw[zg] at e1 e2 h1 h2
  refine⟨?_,hn⟩
  rw[Tr ⟨hn,by omega,by omega,by rw[Int.toNat_natCast];exact e2⟩,Int.toNat_natCast,e1,z40]
 ·cases h
theorem ahR{ae form:Int}:eK ae form=true↔(ae=1\/ae=2)/\(form=2\/form=3):=by unfold eK;rw[decide_eq_true_eq]
theorem aeA{ae form n:Int}{s:ByteArray}(hk:eK ae form=true)(h:nO ae form s=some n)(hs:s.size=jU ae form):xV ae form n=(s,0)/\0<=n:=by
 have B4:=ahR.1 hk
 unfold nO at h
 unfold jU at hs
 unfold xV
 rw[hk,zC]
 by_cases h2:ae=2
 ·rw[if_pos h2] at h hs⊢
  generalize hg:iL s form=g at h
  obtain⟨t,e,i⟩:=g
  dsimp only at h
  split at h
  case isFalse=>cases h
  rename_i he
  subst he
  obtain⟨a1,a2,a3⟩:=Mz hg (by omega)
  split at h
  case isFalse=>cases h
  rename_i ho
  have hn:(cW (bl t)).1=n:=by simpa using h
  obtain⟨c1,c2⟩:=MX (s:=t) (n:=n) (by rw[<-hn,<-ho])
  rw[a2] at c1
  rw[c1,zC]
  dsimp only
  rw[a1]
  exact⟨rfl,c2⟩
 ·rw[if_neg h2] at h hs⊢
  split at h
  case isFalse=>cases h
  rename_i ho
  have hn:(cW (bl s)).1=n:=by simpa using h
  obtain⟨c1,c2⟩:=MX (s:=s) (n:=n) (by rw[<-hn,<-ho])
  rw[hs,Int.toNat_of_nonneg (by omega)] at c1
  rw[c1]
  exact⟨rfl,c2⟩
theorem ahT{ae form n z:Int}{b:ByteArray}{a:Nat}(h:io ae form b a=(n,z,0)):eK ae form=true/\0<=n/\a<=b.size/\z=((a+jU ae form:Nat):Int)/\a+jU ae form<=b.size/\xV ae form n=(b.extract a (a+jU ae form),0):=by
 unfold io at h
 cases hk:(eK ae form&&decide (0<=(a:Int)/\(a:Int)<=(b.size:Int))) with
 |false=>rw[hk] at h;cases h
 |true=>
  rw[hk,zC,Int.toNat_natCast] at h
  rw[Bool.and_eq_true,decide_eq_true_eq] at hk
  split at h
  ·cases h
  ·rename_i hs
   split at h
   ·rename_i m hm
    cases h
    obtain⟨c1,c2⟩:=aeA hk.1 hm (xx (by omega))
    exact⟨hk.1,c2,by omega,rfl,by omega,c1⟩
   ·cases h
theorem aha{ae:Int}{s:Spec}{c t:ByteArray}{n:Nat}(hc:c.size=hI (b9 ae s.2.1) n)(hn:n<=999)(h:lj (b9 ae s.2.1) c n= .inr t):iU (b9 ae s.2.1) t=c/\t.size=n:=by
 unfold lj at h
 unfold hI at hc
 unfold iU
 rcases Tn ae s.2.1 with hh|hh|hh<;>rw[hh] at h hc⊢ <;>simp only[Int.reduceEq,if_true,if_false] at h hc⊢
 ·injection h with h
  exact⟨h.symm,by rw[<-h];exact hc⟩
 ·split at h
  case isFalse=>cases h
  rename_i he
  generalize hg:iL c (n:Int)=g at h he
  obtain⟨t',e,i⟩:=g
  dsimp only at h he
  subst he
  injection h with h
  subst h
  obtain⟨a1,a2,a3⟩:=Mz hg (by omega)
  exact⟨by rw[a1],by omega⟩
 ·split at h
  case isFalse=>cases h
  rename_i he
  generalize hg:z21 c=g at h he
  obtain⟨t',i,ok⟩:=g
  dsimp only at h he
  subst he
  injection h with h
  subst h
  obtain⟨a1,a2⟩:=zjx hg
  exact⟨a1,by omega⟩
theorem zy0{ae z:Int}{s:Spec}{b t:ByteArray}{a:Nat}(hb:b.size<=1099511627776)(h:mP ae s b a=(t,z,0)):(ae=1\/ae=2)/\bk s t=0/\(a:Int)<=z/\z<=b.size/\t.size<=999/\(rJ ae s t).1=b.extract a z.toNat:=by
 unfold mP at h
 split at h
 case isFalse=>cases h
 rename_i hc
 obtain⟨hs,v1,ha0,ha1⟩:=hc
 obtain⟨k1,k2,k3,k4,k5,k6,k7,k8,k9⟩:=IC v1
 have body:∀(n p:Nat),n<=999->rH (b9 ae s.2.1) s b n p=(t,z,0)->bk s t=0/\z=((p+hI (b9 ae s.2.1) n:Nat):Int)/\p+hI (b9 ae s.2.1) n<=b.size/\t.size=n/\iU (b9 ae s.2.1) t=b.extract p (p+hI (b9 ae s.2.1) n):=by
  intro n p hn h
  unfold rH at h
  split at h
  ·cases h
  ·rename_i aq
   cases hg:lj (b9 ae s.2.1) (b.extract p (p+hI (b9 ae s.2.1) n)) (n:Int) with
   |inl e=>
    rw[hg] at h
    replace h:(bs [],(0:Int),e)=(t,z,0):=h
    injection h with _ h
    injection h with _ h
    exfalso
    subst h
    unfold lj at hg
    split at hg
    ·split at hg
     ·cases hg
     ·rename_i ct
      injection hg with hg
      exact ct hg
    ·split at hg
     ·split at hg<;>cases hg
     ·cases hg
   |inr t'=>
    rw[hg] at h
    replace h:(if bk s t'=0 then(t',((p+hI (b9 ae s.2.1) n:Nat):Int),(0:Int)) else(bs [],0,bk s t'))=(t,z,0):=h
    split at h
    ·rename_i hv
     cases h
     obtain⟨c1,c2⟩:=aha (xx (by omega)) hn hg
     exact⟨hv,rfl,by omega,c2,c1⟩
    ·rename_i hv
     injection h with _ h
     injection h with _ h
     exact absurd h hv
 have fin:bk s t=0->(rJ ae s t).1=jc ae s.2.2.1 t.size++iU (b9 ae s.2.1) t:=fun hv=>by
  unfold rJ
  rw[if_neg (fun h=>h hs),if_neg (fun h=>h hv)]
 unfold zxz at h
 by_cases hf:s.2.2.1=1
 ·rw[if_pos hf] at h
  obtain⟨b1,b2,b3,b4,b5⟩:=body _ _ (by omega) h
  rw[Int.toNat_natCast] at b2 b3 b5
  refine⟨hs,b1,by omega,by omega,by omega,?_⟩
  rw[fin b1,b5,b2,Int.toNat_natCast]
  unfold jc
  rw[if_pos hf,Gb]
 ·rw[if_neg hf] at h
  split at h
  ·rename_i he
   unfold zM at h
   injection h with _ h
   injection h with _ h
   exact absurd h he
  ·rename_i he
   split at h
   ·cases h
   ·rename_i hr
    generalize hg:io ae s.2.2.1 b (a:Int)=g at h he hr
    obtain⟨n,z',e⟩:=g
    dsimp only at h he hr
    have he:e=0:=by
     by_cases e0:e=0
     ·exact e0
     ·exact absurd e0 he
    subst he
    obtain⟨q1,q2,q3,q4,q5,q6⟩:=ahT hg
    obtain⟨b1,b2,b3,b4,b5⟩:=body _ _ (by omega) h
    dsimp only at b2 b3 b5
    subst q4
    rw[Int.toNat_natCast] at b2 b3 b5
    refine⟨hs,b1,by omega,by omega,by omega,?_⟩
    rw[fin b1,b5,b2,Int.toNat_natCast]
    have hpc:jc ae s.2.2.1 t.size=b.extract a (a+jU ae s.2.2.1):=by
     unfold jc
     rw[if_neg hf,b4,Int.toNat_of_nonneg q2,q6]
    rw[hpc,PR _ (by omega) (by omega)]
def mL(n:Nat)(l:List Int):Nat:=l.foldl (fun n c=>n*256+c.toNat) n
def fL(l:List Int):Nat:=mL 0 l
def kd(x:Nat):List Int:=[((x/72057594037927936 % 256:Nat):Int),((x/281474976710656 % 256:Nat):Int),((x/1099511627776 % 256:Nat):Int),((x/4294967296 % 256:Nat):Int),((x/16777216 % 256:Nat):Int),((x/65536 % 256:Nat):Int),((x/256 % 256:Nat):Int),((x % 256:Nat):Int)]
theorem E1{x:Nat}(h:x<18446744073709551616):fL (kd x)=x:=by
 simp only[fL,mL,kd,List.foldl,Int.toNat_natCast]
 omega
theorem eight{l:List Int}(h:l.length=8):∃a b c d e f g i,l=[a,b,c,d,e,f,g,i]:=by
 match l,h with
 | [a,b,c,d,e,f,g,i],_=>exact⟨a,b,c,d,e,f,g,i,rfl⟩
def Tj:Nat->Nat->List Int
 |0,_=>[]
 |m+1,x=>Tj m (x/256)++ [((x % 256:Nat):Int)]
theorem Nz(l:List Int)(n:Nat)(c:Int):mL n (l++ [c])=mL n l*256+c.toNat:=by
 unfold mL;rw[List.foldl_append];rfl
theorem zxy:∀(m:Nat) (l:List Int),l.length=m->(∀y∈l,zq y)->Tj m (fL l)=l/\fL l<256^m
 |0,l,h,_=>by
  have:=List.length_eq_zero_iff.1 h
  subst this
  exact⟨rfl,by decide⟩
 |m+1,l,h,hb=>by
  obtain⟨q,c,rfl⟩:∃q c,l=q++ [c]:=by
   rcases List.eq_nil_or_concat l with e|⟨q,c,e⟩
   ·rw[e] at h;cases h
   ·exact⟨q,c,by rw[e,List.concat_eq_append]⟩
  obtain⟨i1,i2⟩:=zxy m q (by rw[List.length_append,List.length_singleton] at h;omega) fun y hy=>hb y (List.mem_append_left _ hy)
  have hc:=hb c (List.mem_append_right _ (by simp))
  unfold zq at hc
  unfold fL at i1 i2⊢
  rw[Nz]
  generalize mL 0 q=v at i1 i2
  refine⟨?_,by rw[Nat.pow_succ];omega⟩
  rw[Tj,show(v*256+c.toNat)/256=v by omega,i1,show(v*256+c.toNat)% 256=c.toNat by omega,Int.toNat_of_nonneg hc.1]
theorem K2(x:Nat):kd x=Tj 8 x:=by
 simp only[Tj,kd,Nat.div_div_eq_div_mul,List.nil_append,List.cons_append]
theorem G9{l:List Int}(h:l.length=8)(hb:∀y∈l,zq y):kd (fL l)=l/\fL l<18446744073709551616:=by
 obtain⟨h1,h2⟩:=zxy 8 l h hb
 rw[K2]
 exact⟨h1,by rw[show(256:Nat)^8=18446744073709551616 from by decide] at h2;exact h2⟩
theorem N0(x:Nat):∀y∈kd x,zq y:=by
 intro y hy
 unfold kd at hy
 simp only[List.mem_cons,List.not_mem_nil,or_false] at hy
 unfold zq
 omega
theorem PO(x:Nat):(kd x).length=8:=rfl
theorem UC{x:Nat}(hx:x<18446744073709551616):kd x=[0,0,0,0,0,0,0,0]↔x=0:=by
 constructor
 ·intro h
  have:=E1 hx
  rw[h] at this
  rw[<-this];rfl
 ·rintro rfl;rfl
theorem Gj(n:Nat):zW zU (n:Int)=((n % 256:Nat):Int):=by
 simp [IntKind.wrap,IntKind.signed,IntKind.bits]
theorem AN(k x:Nat)(j:Nat)(hj:j<8)(p q:List Int):gC (k+1) (x:Int) (j:Int) p q=gC k (x:Int) ((j+1:Nat):Int) p (q.set j ((x/2^(8*(7-j))% 256:Nat):Int)):=by
 have e1:zW zI ((7:Int)-(j:Int))=((7-j:Nat):Int):=by rw[zi (by omega) (by omega)];omega
 have e2:zW zI ((8:Int)*((7-j:Nat):Int))=((8*(7-j):Nat):Int):=by rw[zi (by omega) (by omega)];omega
 conv=>lhs;unfold gC lZ
 rw[zT (by omega),zC,e1,e2,zF (by omega),zD,zh hj,RF x _ (by omega),Gj,zo (by omega),Int.toNat_natCast]
theorem ag6(k x:Nat)(p q:List Int):gC (k+1) (x:Int) ((8:Nat):Int) p q=some (p,q):=by
 unfold gC lZ
 rw[zF (by omega)];rfl
theorem ztc(x:Nat):Q8 (x:Int)=some (kd x):=by
 obtain⟨k,hk⟩:∃k,ah=k+9:=⟨ah-9,by rw[zn]⟩
 unfold Q8 oN
 dsimp only
 rw[hk,show(0:Int)=((0:Nat):Int) from rfl,AN _ x 0 (by decide),AN _ x 1 (by decide),AN _ x 2 (by decide),AN _ x 3 (by decide),AN _ x 4 (by decide),AN _ x 5 (by decide),AN _ x 6 (by decide),AN _ x 7 (by decide),ag6,zc]
 unfold oO kd
 simp
theorem ap7{n c:Nat}(hc:c<256):n*256|||c=n*256+c:=by
 have:=Nat.two_pow_add_eq_or_of_lt (i:=8) (b:=c) hc n
 rw[show(2:Nat)^8=256 from rfl,Nat.mul_comm 256 n] at this
 exact this.symm
theorem MB(l:List Int)(hl:l.length=8)(hb:∀y∈l,zq y):∀(m j k n:Nat),j+m=8->m<k->n<256^j->jr k (n:Int) l (j:Int)=some ((mL n (l.drop j):Nat):Int)
 |m,j,0,n,_,hk,_=>by omega
 |0,j,k+1,n,hj,hk,_=>by
  unfold jr lY
  rw[zF (by omega),zD,List.drop_eq_nil_of_le (by omega)];rfl
 |m+1,j,k+1,n,hj,hk,hn=>by
  have aq:j<l.length:=by omega
  have hc:=hb _ (List.getElem_mem aq)
  unfold zq at hc
  have hg:l.getD j 0=l[j]:=by rw[List.getD_eq_getElem?_getD,List.getElem?_eq_getElem aq];rfl
  have hp:(256:Nat)^j<=256^7:=Nat.pow_le_pow_right (by decide) (by omega)
  have hp7:(256:Nat)^7=72057594037927936:=by decide
  obtain⟨c,hcc⟩:∃c:Nat,l[j]=(c:Int):=⟨l[j].toNat,by omega⟩
  unfold jr lY
  rw[zT (by omega),zC,zh (by omega),Int.toNat_natCast,hg,hcc,zo (by omega)]
  have e1:IntKind.u64.wrap ((n:Int)*2^min ((8:Int)).toNat 64)=((n*256:Nat):Int):=by
   have:((n:Int)*2^min ((8:Int)).toNat 64)=((n*256:Nat):Int):=by
    rw[show min ((8:Int)).toNat 64=8 from rfl,show(2:Int)^8=256 from by decide];omega
   rw[this];exact ID (by omega)
  rw[e1,ID (by omega),xd (by omega) (by omega),ap7 (by omega)]
  dsimp only
  have Ly:n*256+c<256^(j+1):=by rw[Nat.pow_succ];omega
  rw[MB l hl hb m (j+1) k _ (by omega) (by omega) Ly,List.drop_eq_getElem_cons aq,hcc]
  rfl
theorem PM(l:List Int)(hl:l.length=8)(hb:∀y∈l,zq y):Q7 l=some ((fL l:Nat):Int):=by
 unfold Q7 oJ
 have:=MB l hl hb 8 0 ah 0 (by omega) (by rw[zn];omega) (by decide)
 rw[show((0:Nat):Int)=0 from rfl,List.drop_zero] at this
 dsimp only
 rw[this];rfl
def dx(ae:Int):Nat:=if ae=1 then 16 else 8
def jf(ae:Int)(b:ByteArray)(a:Nat):Sum Int Nat:=
 if b.size<a+dx ae then .inl 2 else if ae=1 then(if(z21 (b.extract a (a+dx ae))).2.2=true then .inr (fL (bl (z21 (b.extract a (a+dx ae))).1)) else .inl 3) else .inr (fL (bl (b.extract a (a+dx ae))))
def ud(a:Nat)(ae:Int):Sum Int Nat->List Int×Int×Int
 | .inl e=>(List.replicate 8 0,0,e)
 | .inr x=>(kd x,((a+dx ae:Nat):Int),0)
theorem zO{t:ByteArray}(h:t.size=8):bJ (List.replicate 8 (0:Int)) (List.take 8 (mY t)) 0=kd (fL (bl t)):=by
 have hl:(bl t).length=8:=by rw[zg];exact h
 rw[(G9 hl fun y hy=>im hy).1]
 have dQ:mY t=bl t:=rfl
 rw[dQ]
 obtain⟨a,b,c,d,e,f,g,i,hq⟩:=eight hl
 rw[hq]
 rfl
theorem pS{s t:ByteArray}{i:Int}(h:z21 s=(t,i,true))(hs:s.size=16):t.size=8:=by have:=(zjx h).2;omega
theorem Qi(ae:Int)(b:ByteArray)(a:Nat)(hb:b.size<=1099511627776)(ha:a<=b.size)(hs:ae=1\/ae=2):Hv ae b a=some (ud a ae (jf ae b a)):=by
 have w0:zW zI ((b.size:Int)-(a:Int))=(b.size:Int)-a:=zi (by omega) (by omega)
 have w8:zW zI ((a:Int)+8)=((a+8:Nat):Int):=by rw[zi (by omega) (by omega)];omega
 have w16:zW zI ((a:Int)+16)=((a+16:Nat):Int):=by rw[zi (by omega) (by omega)];omega
 have wm:zW zI ((8:Int)*2)=16:=by decide
 unfold Hv Yr jf dx
 rcases hs with rfl|rfl
 ·simp only[Int.reduceEq,decide_true,zC,wm,w0,w16,if_true,Int.toNat_natCast]
  split
  ·rename_i hc
   rw[zT (by omega)];rfl
  ·rename_i hc
   rw[zF (by omega),zD,zT (by omega),zC,zT (by omega),zC,zT (by omega),zC,zT (by omega),zC,zyh _ (by rw[ByteArray.size_extract];omega),zc]
   generalize hg:z21 (b.extract a (a+16))=g
   obtain⟨t,i,ok⟩:=g
   cases ok with
   |false=>rfl
   |true=>
    have ht:=pS hg (xx (by omega))
    dsimp only
    rw[Bool.not_true,zD,if_pos rfl,zO ht]
    rfl
 ·simp only[Int.reduceEq,decide_false,zD,w0,w8,if_false,Int.toNat_natCast]
  split
  ·rename_i hc
   rw[zT (by omega)];rfl
  ·rename_i hc
   rw[zF (by omega),zD,zT (by omega),zC,zT (by omega),zC,zT (by omega),zC,zT (by omega),zC,zO (xx (by omega))]
   rfl
theorem Ti{ae:Int}{b:ByteArray}{a x:Nat}(hs:ae=1\/ae=2)(h:jf ae b a= .inr x):x<18446744073709551616/\a+dx ae<=b.size:=by
 unfold jf dx at h
 unfold dx
 rcases hs with rfl|rfl
 ·simp only[if_true] at h⊢
  split at h
  ·cases h
  ·split at h
   case isFalse=>cases h
   rename_i hc ho
   injection h with h
   generalize hg:z21 (b.extract a (a+16))=g at h ho
   obtain⟨t,i,ok⟩:=g
   dsimp only at h ho
   subst ho
   have ht:=pS hg (xx (by omega))
   rw[<-h]
   exact⟨(G9 (by rw[zg];exact ht) fun y hy=>im hy).2,by omega⟩
 ·simp only[Int.reduceEq,if_false] at h⊢
  split at h
  ·cases h
  ·injection h with h
   rw[<-h]
   exact⟨(G9 (by rw[zg];exact xx (by omega)) fun y hy=>im hy).2,by omega⟩
def tc(e:Int):Nat×Nat×Int×Int:=(0,0,0,e)
def bm(ae:Int)(b:ByteArray)(at_:Int):Nat×Nat×Int×Int:=
 if(ae=1\/ae=2)/\0<=at_/\at_<=b.size then
  match jf ae b at_.toNat with
  | .inl e=>tc e
  | .inr x=>if x<9223372036854775808 then(x,0,((at_.toNat+dx ae:Nat):Int),0) else
    match jf ae b (at_.toNat+dx ae) with
    | .inl e=>tc e
    | .inr y=>if y=0 then tc 8 else(x-9223372036854775808,y,((at_.toNat+dx ae+dx ae:Nat):Int),0)
 else tc 1
def bmR(r:Nat×Nat×Int×Int):vl×Int×Int:=(((r.1:Int),(r.2.1:Int),()),r.2.2.1,r.2.2.2)
theorem aoy{x:Nat}(hx:x<18446744073709551616):decide (aM .and .u64 (x:Int) (9223372036854775808:Int)=0)=decide (x<9223372036854775808):=by
 rw[show(9223372036854775808:Int)=((9223372036854775808:Nat):Int) from rfl,l8 hx (by decide)]
 apply decide_eq_decide.2
 have h:=z9y x 63
 rw[show(2:Nat)^63=9223372036854775808 from by decide] at h
 constructor
 ·intro e
  have e:x&&&9223372036854775808=0:=by omega
  have:=h.1 e
  rcases Nat.lt_or_ge x 9223372036854775808 with h1|h1
  ·exact h1
  ·have h2:x.testBit 63=true:=by
    rw[Nat.testBit_eq_decide_div_mod_eq]
    exact zT (by omega)
   rw[h2] at this;cases this
 ·intro e
  have:x.testBit 63=false:=Nat.testBit_lt_two_pow (by rw[show(2:Nat)^63=9223372036854775808 from by decide];exact e)
  have:=h.2 this
  omega
theorem aoz{x:Nat}(hx:x<18446744073709551616)(h:¬x<9223372036854775808):aM .andNot .u64 (x:Int) (9223372036854775808:Int)=((x-9223372036854775808:Nat):Int):=by
 rw[show(9223372036854775808:Int)=((9223372036854775808:Nat):Int) from rfl,akL hx (by decide)]
 have:x&&&(18446744073709551615-9223372036854775808)=x-9223372036854775808:=by
  have:=Nat.and_two_pow_sub_one_eq_mod x 63
  rw[show(2:Nat)^63-1=18446744073709551615-9223372036854775808 from by decide,show(2:Nat)^63=9223372036854775808 from by decide] at this
  omega
 rw[this]
theorem akT(ae:Int)(b:ByteArray)(at_:Int)(hb:b.size<=1099511627776):Q5 ae b at_=some (bmR (bm ae b at_)):=by
 have hk:Q9 ae=some (decide (ae=1\/ae=2)):=by
  unfold Q9 l4
  by_cases h1:ae=1
  ·rw[zT (p:=ae=1\/ae=2) (.inl h1),zT h1];rfl
  ·rw[zF h1,zD]
   by_cases h2:ae=2
   ·rw[zT (p:=ae=1\/ae=2) (.inr h2),zT h2]
   ·rw[zF (p:=ae=1\/ae=2) (fun h=>h.elim h1 h2),zF h2]
 unfold Q5 om bm
 rw[hk,zc]
 by_cases h1:ae=1\/ae=2
 case neg=>rw[zF h1,if_neg (fun h=>h1 h.1)];rfl
 rw[zT h1,Bool.not_true,zD]
 by_cases h3:at_<0
 ·rw[zT h3,if_neg (fun h=>by omega)];rfl
 rw[zF h3,zD]
 by_cases h4:(b.size:Int)<at_
 ·rw[zT h4,if_neg (fun h=>by omega)];rfl
 rw[zF h4,zD,if_pos ⟨h1,by omega,by omega⟩]
 obtain⟨m,rfl⟩:∃m:Nat,at_=m:=⟨at_.toNat,by omega⟩
 rw[Int.toNat_natCast,Qi ae b m hb (by omega) h1,zc]
 cases hT:jf ae b m with
 |inl e=>
  have he:¬e=0:=by
   unfold jf at hT
   split at hT
   ·cases hT;decide
   ·split at hT
    ·split at hT
     ·cases hT
     ·cases hT;decide
    ·cases hT
  show(bif(!(decide (e=0))) then _ else _)=_
  rw[zF he];rfl
 |inr x=>
  obtain⟨hx,dt⟩:=Ti h1 hT
  show(bif(!(decide ((0:Int)=0))) then _ else(Q7 (kd x)).bind _)=_
  rw[zT rfl,Bool.not_true,zD,PM _ (PO x) (N0 x),zc,E1 hx,aoy hx]
  by_cases aq:x<9223372036854775808
  ·rw[zT aq,zC]
   dsimp only
   rw[if_pos aq];rfl
  ·rw[zF aq,zD]
   dsimp only[ud]
   rw[Qi ae b (m+dx ae) hb (by omega) h1,zc,if_neg aq]
   cases hU:jf ae b (m+dx ae) with
   |inl e=>
    have he:¬e=0:=by
     unfold jf at hU
     split at hU
     ·cases hU;decide
     ·split at hU
      ·split at hU
       ·cases hU
       ·cases hU;decide
      ·cases hU
    show(bif(!(decide (e=0))) then _ else _)=_
    rw[zF he];rfl
   |inr y=>
    obtain⟨hy,hsy⟩:=Ti h1 hU
    rw[show ud (m+dx ae) ae (.inr y)=(kd y,((m+dx ae+dx ae:Nat):Int),(0:Int)) from rfl]
    dsimp only
    rw[zT rfl,Bool.not_true,zD]
    by_cases hz:y=0
    ·rw[zT ((UC hy).2 hz),zC]
     rw[if_pos hz];rfl
    ·rw[zF (fun h=>hz ((UC hy).1 h)),zD,PM _ (PO y) (N0 y),zc,E1 hy,aoz hx aq]
     rw[if_neg hz];rfl
def fe(ae:Int)(t:ByteArray):ByteArray:=if ae=1 then rf t else t
def wB(x:Nat):ByteArray:=strOf (kd x)
theorem rL(x:Nat):(wB x).size=8:=by unfold wB;rw[lL];rfl
theorem zjl{ae:Int}(x:Nat):(fe ae (wB x)).size=dx ae:=by
 unfold fe dx
 split
 ·rw[zb6,rL]
 ·exact rL x
def dc(ae:Int)(h l:Nat):ByteArray×Int:=
 if(ae=1\/ae=2)/\h<9223372036854775808 then((if l=0 then fe ae (wB h) else fe ae (wB (h+9223372036854775808))++fe ae (wB l)),0) else(bs [],1)
theorem zr6:∀a b:List Int,eb (a++b)=eb a++eb b
 | [],b=>rfl
 |x::r,b=>by rw[List.cons_append,eb,eb,zr6 r b];rfl
theorem acD(a b:ByteArray):rf (a++b)=rf a++rf b:=by
 unfold rf
 rw[z28,zr6,T3]
theorem zqw(ae:Int)(a b:ByteArray):fe ae (a++b)=fe ae a++fe ae b:=by
 unfold fe
 split
 ·exact acD a b
 ·rfl
theorem PW{h l:Nat}(hh:h<cS):bu h l 1= !decide (h<9223372036854775808):=by
 have e:bu h l 1=h.testBit 63:=by
  unfold bu
  rw[if_pos (by decide)];rfl
 rw[e]
 rcases Nat.lt_or_ge h 9223372036854775808 with h1|h1
 ·rw[zT h1]
  exact Nat.testBit_lt_two_pow (by rw[show(2:Nat)^63=9223372036854775808 from by decide];exact h1)
 ·rw[zF (by omega),Nat.testBit_eq_decide_div_mod_eq]
  have hh:h<18446744073709551616:=hh
  exact zT (by omega)
theorem QZ{h:Nat}(hh:h<9223372036854775808):h|||9223372036854775808=h+9223372036854775808:=by
 have:=Nat.two_pow_add_eq_or_of_lt (i:=63) (b:=h) (by rw[show(2:Nat)^63=9223372036854775808 from by decide];exact hh) 1
 rw[show(2:Nat)^63=9223372036854775808 from by decide,Nat.mul_one] at this
 rw[Nat.or_comm,<-this,Nat.add_comm]
theorem E0(x:ByteArray):x++bs []=x:=by
 apply ByteArray.ext
 simp [ByteArray.data_append,bs]
theorem akU(ae:Int)(h l:Nat)(hh:h<cS)(hl:l<cS):Q6 ae ((h:Int),(l:Int),())=some (dc ae h l):=by
 have hk:Q9 ae=some (decide (ae=1\/ae=2)):=by
  unfold Q9 l4
  by_cases h1:ae=1
  ·rw[zT (p:=ae=1\/ae=2) (.inl h1),zT h1];rfl
  ·rw[zF h1,zD]
   by_cases h2:ae=2
   ·rw[zT (p:=ae=1\/ae=2) (.inr h2),zT h2]
   ·rw[zF (p:=ae=1\/ae=2) (fun h=>h.elim h1 h2),zF h2]
 unfold Q6 ox dc
 rw[hk,zc]
 by_cases h1:ae=1\/ae=2
 case neg=>rw[zF h1,if_neg (fun h=>h1 h.1)];rfl
 rw[zT h1,Bool.not_true,zD,aoC h l hh hl,zc,PW hh]
 by_cases h2:h<9223372036854775808
 case neg=>rw[zF h2,if_neg (fun h=>h2 h.2)];rfl
 rw[zT h2,Bool.not_true,zD,if_pos ⟨h1,h2⟩]
 have hH:Tw ((h:Int),(l:Int),())=some ((h:Int),(l:Int)):=rfl
 rw[hH,zc]
 dsimp only
 rw[ztc,zc]
 have z8:∀x:Nat,Nat.beq 8 (List.length (kd x))=true:=fun x=>rfl
 have fin:∀t:ByteArray,t.size<=16->(bif decide (ae=1) then(jk t).bind fun r6=>some (r6,(0:Int)) else some (t,0))=some (fe ae t,0):=fun t ht=>by
  unfold fe
  by_cases hs:ae=1
  ·rw[zT hs,zC,zyi t (by omega),if_pos hs];rfl
  ·rw[zF hs,if_neg hs];rfl
 by_cases hz:l=0
 ·rw[zT ((UC hl).2 hz),if_pos hz,Bool.not_true,zD,ztc,zc,z8,zC]
  have dt:(strOf (kd h)).size=8:=rL h
  rw[zT (by rw[dt];decide),zC,E0]
  exact fin (wB h) (by rw[rL];decide)
 ·have hor:aM .or .u64 (h:Int) (9223372036854775808:Int)=((h+9223372036854775808:Nat):Int):=by
   rw[show(9223372036854775808:Int)=((9223372036854775808:Nat):Int) from rfl,xd hh (by decide),QZ h2]
  rw[zF (fun e=>hz ((UC hl).1 e)),if_neg hz,Bool.not_false,zC,z8,zC,hor,ztc,zc,z8,zC]
  have dt:∀x,(strOf (kd x)).size=8:=fun x=>rL x
  rw[zT (by rw[dt,dt];decide),zC,<-zqw]
  exact fin (wB _++wB l) (by rw[z31,rL,rL];decide)
theorem aog(b:ByteArray){a:Nat}{ae:Int}(h:a+dx ae<=b.size):(b.extract a (a+dx ae)).size=dx ae:=xx h
theorem MC{ae:Int}{b:ByteArray}{a v:Nat}(hs:ae=1\/ae=2)(h:jf ae b a= .inr v):fe ae (wB v)=b.extract a (a+dx ae)/\v<18446744073709551616/\a+dx ae<=b.size:=by
 obtain⟨h1,h2⟩:=Ti hs h
 refine⟨?_,h1,h2⟩
 have hz:=aog b h2
 unfold jf at h
 rw[if_neg (by omega)] at h
 unfold fe wB
 rcases hs with rfl|rfl
 ·rw[if_pos rfl] at h⊢
  split at h
  case isFalse=>cases h
  rename_i ho
  generalize hg:z21 (b.extract a (a+dx 1))=g at h ho
  obtain⟨t,i,ok⟩:=g
  dsimp only at h ho
  subst ho
  injection h with h
  have ht:=pS hg hz
  obtain⟨e1,_⟩:=G9 (l:=bl t) (by rw[zg];exact ht) fun y hy=>im hy
  rw[<-h,e1,z40,(zjx hg).1]
 ·rw[if_neg (by decide)] at h⊢
  injection h with h
  obtain⟨e1,_⟩:=G9 (l:=bl (b.extract a (a+dx 2))) (by rw[zg];exact hz) fun y hy=>im hy
  rw[<-h,e1,z40]
theorem ztb{ae:Int}{h l:Nat}(hs:ae=1\/ae=2)(hh:h<9223372036854775808):dc ae h l=((if l=0 then fe ae (wB h) else fe ae (wB (h+9223372036854775808))++fe ae (wB l)),0):=by
 unfold dc
 rw[if_pos ⟨hs,hh⟩]
theorem akV{ae z:Int}{b:ByteArray}{a h l:Nat}(hg:bm ae b a=(h,l,z,0)):(ae=1\/ae=2)/\h<9223372036854775808/\l<18446744073709551616/\(a:Int)<=z/\z<=b.size/\(dc ae h l).1=b.extract a z.toNat:=by
 unfold bm at hg
 split at hg
 case isFalse=>cases hg
 rename_i hc
 obtain⟨hs,h0,h1⟩:=hc
 rw[Int.toNat_natCast] at hg
 cases hT:jf ae b a with
 |inl e=>
  exfalso
  rw[hT] at hg
  have he:e=0:=by
   have:=congrArg (fun r:Nat×Nat×Int×Int=>r.2.2.2) hg
   exact this
  subst he
  unfold jf at hT
  split at hT
  ·cases hT
  ·split at hT
   ·split at hT<;>cases hT
   ·cases hT
 |inr x=>
  rw[hT] at hg
  obtain⟨e1,e2,e3⟩:=MC hs hT
  dsimp only at hg
  split at hg
  ·rename_i aq
   injection hg with g1 g2
   injection g2 with g2 g3
   injection g3 with g3 _
   subst g1 g2 g3
   refine⟨hs,aq,by decide,by omega,by omega,?_⟩
   rw[ztb hs aq,if_pos rfl,e1,Int.toNat_natCast]
  ·rename_i TG
   cases hU:jf ae b (a+dx ae) with
   |inl e=>
    exfalso
    rw[hU] at hg
    have he:e=0:=by
     have:=congrArg (fun r:Nat×Nat×Int×Int=>r.2.2.2) hg
     exact this
    subst he
    unfold jf at hU
    split at hU
    ·cases hU
    ·split at hU
     ·split at hU<;>cases hU
     ·cases hU
   |inr y=>
    rw[hU] at hg
    obtain⟨f1,f2,f3⟩:=MC hs hU
    dsimp only at hg
    split at hg
    ·exfalso
     have:=congrArg (fun r:Nat×Nat×Int×Int=>r.2.2.2) hg
     cases this
    ·rename_i hz
     injection hg with g1 g2
     injection g2 with g2 g3
     injection g3 with g3 _
     subst g1 g2 g3
     refine⟨hs,by omega,f2,by omega,by omega,?_⟩
     rw[ztb hs (by omega),if_neg hz,show x-9223372036854775808+9223372036854775808=x by omega,e1,f1,Int.toNat_natCast]
     exact PR _ (by omega) (by omega)
end bF

set_option maxRecDepth 10000
namespace bF
open Go.IntKind renaming wrap->zW,i64->zI,u8->zU
open Go Go.Ref
@[irreducible] def pL (x base m:Nat):List Int:=((List.range m).filter fun k=>x.testBit (63-k)).map fun k=>((base+k:Nat):Int)
theorem aot(x base m:Nat):pL x base (m+1)=if x.testBit (63-m)=true then pL x base m++ [((base+m:Nat):Int)] else pL x base m:=by
 unfold pL
 rw[List.range_succ,List.filter_append,List.map_append]
 split
 ·rename_i h;rw[List.filter_cons_of_pos (by exact h)];rfl
 ·rename_i h;rw[List.filter_cons_of_neg (by exact h)];simp
theorem Gg(x base m:Nat):(pL x base m).length<=m:=by
 unfold pL
 rw[List.length_map]
 exact Nat.le_trans (List.length_filter_le _ _) (by rw[List.length_range];exact Nat.le_refl _)
theorem zqu(h l:Nat):elems h l=pL h 1 64++pL l 65 64:=by
 unfold elems mE pL
 rw[List.filter_map,show(128:Nat)=64+64 from rfl,List.range_add,List.filter_append,List.map_append,List.filter_map,List.map_map]
 congr 1
 ·have:(List.range 64).filter (bu h l∘fun k:Nat=>((k+1:Nat):Int))=(List.range 64).filter fun k=>h.testBit (63-k):=List.filter_congr fun k hk=>by
   have hk:=List.mem_range.1 hk
   show bu h l ((k+1:Nat):Int)=_
   unfold bu
   rw[if_pos (by omega),show(64-((k+1:Nat):Int)).toNat=63-k by omega]
  rw[this]
  apply List.map_congr_left
  intro k _
  rw[Nat.add_comm]
 ·have:(List.range 64).filter ((bu h l∘fun k:Nat=>((k+1:Nat):Int))∘fun k=>64+k)=(List.range 64).filter fun k=>l.testBit (63-k):=List.filter_congr fun k hk=>by
   have hk:=List.mem_range.1 hk
   show bu h l ((64+k+1:Nat):Int)=_
   unfold bu
   rw[if_neg (by omega),if_pos (by omega),show(128-((64+k+1:Nat):Int)).toNat=63-k by omega]
  rw[this]
  apply List.map_congr_left
  intro k _
  show((64+k+1:Nat):Int)=_
  rw[show 64+k+1=65+k by omega]
def Cf(k:Nat):Nat:=if k<8 then 2^(7-k) else 0
theorem K3:∀c:Fin 256,∀k:Fin 8,(Cf k.1=2^(7-k.1))/\(decide ((Cf k.1:Int)<=((c.1 % 2^(8-k.1):Nat):Int))=c.1.testBit (7-k.1))/\(c.1.testBit (7-k.1)=true->zW zU (((c.1 % 2^(8-k.1):Nat):Int)-(Cf k.1:Int))=((c.1 % 2^(8-(k.1+1)):Nat):Int))/\(c.1.testBit (7-k.1)=false->c.1 % 2^(8-k.1)=c.1 % 2^(8-(k.1+1)))/\zW zU (Int.tdiv (Cf k.1:Int) 2)=(Cf (k.1+1):Int):=by decide+kernel
theorem N1(x i k:Nat)(hi:i<8)(hk:k<8):(x/2^(56-8*i)% 256).testBit (7-k)=x.testBit (63-(8*i+k)):=by
 rw[show(256:Nat)=2^8 from rfl,Nat.testBit_mod_two_pow,zT (by omega),Bool.true_and,Nat.testBit_div_two_pow]
 congr 1
 omega
theorem Qc(x:Nat)(t:ByteArray)(base i:Nat)(hi:i<8)(jG:base<=65):∀(m k K:Nat),k+m=8->m<K->
 Hq K (base:Int) t (pL x base (8*i+k)) (i:Int) ((x/2^(56-8*i)% 256 % 2^(8-k):Nat):Int) (Cf k:Int) (k:Int)=some ((base:Int),t,pL x base (8*i+8),(i:Int))
 |m,k,0,_,hK=>by omega
 |0,k,K+1,hk,hK=>by
  have:k=8:=by omega
  subst this
  unfold Hq S8
  rw[zF (by omega)];rfl
 |m+1,k,K+1,hk,hK=>by
  have hk8:k<8:=by omega
  have hc:x/2^(56-8*i)% 256<256:=Nat.mod_lt _ (by decide)
  obtain⟨b1,b2,b3,b4,b5⟩:=K3 ⟨_,hc⟩ ⟨k,hk8⟩
  simp only at b1 b2 b3 b4 b5
  have ih:=Qc x t base i hi jG m (k+1) K (by omega) (by omega)
  have hl:=Gg x base (8*i+k)
  have e1:zW zI ((8:Int)*(i:Int))=((8*i:Nat):Int):=by rw[zi (by omega) (by omega)];omega
  have e2:zW zI ((base:Int)+((8*i:Nat):Int))=((base+8*i:Nat):Int):=by rw[zi (by omega) (by omega)];omega
  have e3:zW zI (((base+8*i:Nat):Int)+(k:Int))=((base+(8*i+k):Nat):Int):=by rw[zi (by omega) (by omega)];omega
  unfold Hq S8
  rw[zT (by omega),zC,b2,e1,e2,e3,b5,zo (by omega),N1 x i k hi hk8]
  have ps:=aot x base (8*i+k)
  rw[Nat.add_assoc] at ps
  have BO:=N1 x i k hi hk8
  cases hb:x.testBit (63-(8*i+k)) with
  |true=>
   rw[hb] at ps BO
   rw[if_pos rfl] at ps
   rw[zC,zT (by simp only[List.length_singleton];omega),zC,b3 BO]
   dsimp only
   rw[<-ps]
   exact ih
  |false=>
   rw[hb] at ps BO
   rw[if_neg (by decide)] at ps
   rw[zD,b4 BO]
   dsimp only
   rw[<-ps]
   exact ih
theorem OM(x:Nat)(t:ByteArray)(ht:t.size=8)(dQ:∀i,i<8->ze t i=((x/2^(56-8*i)% 256:Nat):Int))(base:Nat)(jG:base<=65):∀(m i K:Nat),i+m=8->m<K->
 A8 K (base:Int) t (pL x base (8*i)) (i:Int)=some (pL x base 64)
 |m,i,0,_,hK=>by omega
 |0,i,K+1,hi,hK=>by
  have:i=8:=by omega
  subst this
  unfold A8 zip
  rw[zF (by omega)];rfl
 |m+1,i,K+1,hi,hK=>by
  have h1:=Qc x t base i (by omega) jG 8 0 ah (by omega) (by rw[zn];omega)
  have e0:x/2^(56-8*i)% 256 % 2^(8-0)=x/2^(56-8*i)% 256:=Nat.mod_mod _ _
  rw[e0,show(Cf 0:Int)=128 from rfl,Nat.add_zero] at h1
  unfold A8 zip
  rw[zT (by omega),zC,zh (by omega),Int.toNat_natCast,dQ i (by omega)]
  dsimp only
  rw[show(0:Int)=((0:Nat):Int) from rfl,h1,zc]
  unfold zxd
  dsimp only
  rw[zo (by omega)]
  exact OM x t ht dQ base jG m (i+1) K (by omega) (by omega)
theorem an3{t:ByteArray}(ht:t.size=8):∀i,i<8->ze t i=((fL (bl t)/2^(56-8*i)% 256:Nat):Int):=by
 intro i hi
 have hl:(bl t).length=8:=by rw[zg];exact ht
 have h:=(G9 hl fun y hy=>im hy).1
 have e:(bl t).getD i 0=(kd (fL (bl t))).getD i 0:=congrArg (fun l=>List.getD l i 0) h.symm
 rw[lM,e]
 generalize fL (bl t)=v
 match i,hi with
 |0,_=>rfl
 |1,_=>rfl
 |2,_=>rfl
 |3,_=>rfl
 |4,_=>rfl
 |5,_=>rfl
 |6,_=>rfl
 |7,_=>show((v % 256:Nat):Int)=((v/1 % 256:Nat):Int);rw[Nat.div_one]
def Au(base:Nat):Sum Int Nat->List Int×Int
 | .inl e=>([],e)
 | .inr x=>(pL x base 64,0)
theorem Qb(ae:Int)(b:ByteArray)(a base:Nat)(hb:b.size<=1099511627776)(ha:a<=b.size)(hs:ae=1\/ae=2)(jG:base<=65):oL ae b a base=some (Au base (jf ae b a)):=by
 have w0:zW zI ((b.size:Int)-(a:Int))=(b.size:Int)-a:=zi (by omega) (by omega)
 have w8:zW zI ((a:Int)+8)=((a+8:Nat):Int):=by rw[zi (by omega) (by omega)];omega
 have w16:zW zI ((a:Int)+16)=((a+16:Nat):Int):=by rw[zi (by omega) (by omega)];omega
 have go:∀t:ByteArray,t.size=8->((A8 ah (base:Int) t [] 0).bind fun e=>zxc e (fun a0 a1=>some (a0,a1)))=some (pL (fL (bl t)) base 64,0):=fun t ht=>by
  have:=OM (fL (bl t)) t ht (an3 ht) base jG 8 0 ah (by omega) (by rw[zn];omega)
  rw[show pL (fL (bl t)) base (8*0)=[] from by unfold pL;rfl,show((0:Nat):Int)=0 from rfl] at this
  rw[this];rfl
 unfold oL IQ jf dx
 rcases hs with rfl|rfl
 ·simp only[Int.reduceEq,decide_true,zC,w0,w16,if_true,Int.toNat_natCast]
  split
  ·rename_i hc
   rw[zT (by omega)];rfl
  ·rename_i hc
   rw[zF (by omega),zD,zT (by omega),zC,zT (by omega),zC,zT (by omega),zC,zT (by omega),zC,NG _ (by rw[ByteArray.size_extract];omega),zc]
   generalize hg:z21 (b.extract a (a+16))=g
   obtain⟨t,i,ok⟩:=g
   cases ok with
   |false=>rfl
   |true=>
    have ht:=pS hg (xx (by omega))
    dsimp only
    rw[Bool.not_true,zD,if_pos rfl,go t ht]
    rfl
 ·simp only[Int.reduceEq,decide_false,zD,w0,w8,if_false,Int.toNat_natCast]
  split
  ·rename_i hc
   rw[zT (by omega)];rfl
  ·rename_i hc
   rw[zF (by omega),zD,zT (by omega),zC,zT (by omega),zC,zT (by omega),zC,zT (by omega),zC,go _ (xx (by omega))]
   rfl
theorem X9{ae e:Int}{b:ByteArray}{a:Nat}(h:jf ae b a= .inl e):e≠0:=by
 unfold jf at h
 split at h
 ·cases h;decide
 ·split at h
  ·split at h
   ·cases h
   ·cases h;decide
  ·cases h
theorem P9(base m:Nat):pL 0 base m=[]:=by
 unfold pL
 rw[List.filter_eq_nil_iff.2 (fun k _=>by simp)];rfl
theorem P8(x:Nat)(hx:x<18446744073709551616):(x<9223372036854775808->∀y∈pL x 1 64,y≠1)/\(¬x<9223372036854775808->pL x 1 64=1::pL (x-9223372036854775808) 1 64):=by
 refine⟨fun h y hy e=> ?_,fun h=> ?_⟩
 ·unfold pL at hy
  obtain⟨k,hk,rfl⟩:=List.mem_map.1 hy
  obtain⟨h1,h2⟩:=List.mem_filter.1 hk
  have:k=0:=by omega
  subst this
  have:x.testBit 63=false:=Nat.testBit_lt_two_pow (by rw[show(2:Nat)^63=9223372036854775808 from by decide];exact h)
  rw[Nat.sub_zero,this] at h2;cases h2
 ·have hm:x-9223372036854775808=x % 2^63:=by rw[show(2:Nat)^63=9223372036854775808 from by decide];omega
  have t1:x.testBit 63=true:=by rw[Nat.testBit_eq_decide_div_mod_eq];exact zT (by omega)
  have t2:(x % 2^63).testBit 63=false:=by rw[Nat.testBit_mod_two_pow];rfl
  rw[hm]
  unfold pL
  rw[show(64:Nat)=63+1 from rfl,List.range_succ_eq_map,List.filter_cons_of_pos (by exact t1),List.filter_cons_of_neg (by rw[Nat.sub_zero,t2];decide),List.map_cons]
  have hf:List.filter (fun k=>x.testBit (63-k)) ((List.range 63).map Nat.succ)=List.filter (fun k=>(x % 2^63).testBit (63-k)) ((List.range 63).map Nat.succ):=by
   apply List.filter_congr
   intro k hk
   obtain⟨j,hj,rfl⟩:=List.mem_map.1 hk
   have hj:=List.mem_range.1 hj
   rw[Nat.testBit_mod_two_pow,zT (by omega),Bool.true_and]
  rw[hf]
  rfl
theorem s9{α:Type}{p:Prop}[Decidable p](h:p){x y:α}:(bif decide p then x else y)=x:=by rw[zT h];rfl
theorem s8{α:Type}{p:Prop}[Decidable p](h:¬p){x y:α}:(bif decide p then x else y)=y:=by rw[zF h];rfl
theorem Hs{α:Type}{p:Prop}[Decidable p](h:p){x y:α}:(bif !decide p then x else y)=y:=by rw[zT h];rfl
theorem I3{α:Type}{p:Prop}[Decidable p](h:¬p){x y:α}:(bif !decide p then x else y)=x:=by rw[zF h];rfl
def eU(r:Nat×Nat×Int×Int):List Int×Int×Int:=if r.2.2.2=0 then(elems r.1 r.2.1,r.2.2.1,0) else([],0,r.2.2.2)
theorem Og(h l:Nat)(z:Int):eU (h,l,z,0)=(elems h l,z,0):=by
 unfold eU
 simp only[if_true]
theorem zju{e:Int}(he:e≠0):eU (tc e)=([],0,e):=by
 unfold eU tc
 simp only[he,if_false]
def uA(P2:Option (List Int×Int))(z1 z2:Int)(r1:List Int×Int):Option (List Int×Int×Int):=(bif(!(decide (r1.2=(0:Int)))) then some (([]:List Int),(0:Int),r1.2) else(bif(decide (((List.length r1.1):Int)=(0:Int))) then some (r1.1,z1,(0:Int)) else(zd (0:Int) (List.length r1.1) (bif(!(decide ((List.getD r1.1 ((0:Int)).toNat (0:Int))=(1:Int)))) then some (r1.1,z1,(0:Int)) else(P2.bind fun r2=>(bif(!(decide (r2.2=(0:Int)))) then some (([]:List Int),(0:Int),r2.2) else(bif(decide (((List.length r2.1):Int)=(0:Int))) then some (([]:List Int),(0:Int),(8:Int)) else(bif(decide ((1:Int)<=(((List.length r1.1):Nat):Int))) then(bif(decide (((List.length ([]:List Int))+(List.length (List.drop ((1:Int)).toNat (List.take (List.length r1.1) r1.1))))*8<=140737488355328)) then(bif(decide (((List.length (([]:List Int)++(List.drop ((1:Int)).toNat (List.take (List.length r1.1) r1.1))))+(List.length r2.1))*8<=140737488355328)) then some (((([]:List Int)++(List.drop ((1:Int)).toNat (List.take (List.length r1.1) r1.1)))++r2.1),z2,(0:Int)) else none) else none) else none))))))))
theorem al3{P2:Option (List Int×Int)}{z1 z2 e:Int}(he:e≠0):uA P2 z1 z2 ([],e)=some ([],0,e):=I3 he
theorem aeS{P2:Option (List Int×Int)}{z1 z2:Int}{l:List Int}(h:∀y∈l,y≠1):uA P2 z1 z2 (l,0)=some (l,z1,0):=by
 refine(Hs (p:=(0:Int)=0) rfl).trans ?_
 cases l with
 |nil=>rfl
 |cons y r=>
  refine(s8 (by simp only[List.length_cons];omega)).trans ?_
  refine(show zd (0:Int) (r.length+1) _=_ from zh (j:=0) (by omega)).trans ?_
  exact I3 (h y List.mem_cons_self)
theorem zrl{r2:List Int×Int}{z1 z2:Int}{l:List Int}:uA (some r2) z1 z2 (1::l,0)=bif(!(decide (r2.2=(0:Int)))) then some (([]:List Int),(0:Int),r2.2) else bif decide (((List.length r2.1):Int)=(0:Int)) then some (([]:List Int),(0:Int),(8:Int)) else(bif(decide ((1:Int)<=(((List.length ((1:Int)::l)):Nat):Int))) then(bif(decide (((List.length ([]:List Int))+(List.length (List.drop ((1:Int)).toNat (List.take (List.length ((1:Int)::l)) ((1:Int)::l)))))*8<=140737488355328)) then(bif(decide (((List.length (([]:List Int)++(List.drop ((1:Int)).toNat (List.take (List.length ((1:Int)::l)) ((1:Int)::l)))))+(List.length r2.1))*8<=140737488355328)) then some (((([]:List Int)++(List.drop ((1:Int)).toNat (List.take (List.length ((1:Int)::l)) ((1:Int)::l))))++r2.1),z2,(0:Int)) else none) else none) else none):=by
 refine(Hs (p:=(0:Int)=0) rfl).trans ?_
 refine(s8 (by simp only[List.length_cons];omega)).trans ?_
 refine(show zd (0:Int) (l.length+1) _=_ from zh (j:=0) (by omega)).trans ?_
 exact Hs (p:=(1:Int)=1) rfl
theorem aiv{z1 z2 e:Int}{l:List Int}(he:e≠0):uA (some ([],e)) z1 z2 (1::l,0)=some ([],0,e):=zrl.trans (I3 he)
theorem aiw{z1 z2:Int}{l:List Int}:uA (some ([],0)) z1 z2 (1::l,0)=some ([],0,8):=zrl.trans rfl
theorem aiu{z1 z2:Int}{l l2:List Int}(h:l2≠ [])(h1:l.length<=64)(h2:l2.length<=64):uA (some (l2,0)) z1 z2 (1::l,0)=some (l++l2,z2,0):=by
 have hlen:l2.length≠0:=fun e=>h (List.length_eq_zero_iff.1 e)
 refine zrl.trans ?_
 refine(Hs (p:=(0:Int)=0) rfl).trans ?_
 refine(s8 (by dsimp only;omega)).trans ?_
 refine(s9 (by simp only[List.length_cons];omega)).trans ?_
 have Lf:List.drop ((1:Int)).toNat ((1:Int)::l)=l:=rfl
 simp only[List.take_length,Lf,List.nil_append]
 refine(s9 (by simp only[List.length_nil];omega)).trans ?_
 exact s9 (by omega)
theorem aos{y:Nat}(hy:y<18446744073709551616)(hz:y≠0):pL y 65 64≠ []:=fun e=>hz (by
 have:(∀i,y.testBit i=false):=fun i=>by
  by_cases hi:i<64
  ·cases rA:y.testBit i with
   |false=>rfl
   |true=>
    have:((65+(63-i):Nat):Int)∈pL y 65 64:=by
     unfold pL
     exact List.mem_map.2 ⟨63-i,List.mem_filter.2 ⟨List.mem_range.2 (by omega),by rw[show 63-(63-i)=i by omega];exact rA⟩,rfl⟩
    rw[e] at this;cases this
  ·exact Nat.testBit_lt_two_pow (Nat.lt_of_lt_of_le hy (by rw[show(18446744073709551616:Nat)=2^64 from by decide];exact Nat.pow_le_pow_right (by decide) (by omega)))
 exact Nat.eq_of_testBit_eq fun i=>by rw[this i,Nat.zero_testBit])
theorem QX(ae:Int)(b:ByteArray)(hb:b.size<=1099511627776)(m:Nat)(hm:m<=b.size)(hs:ae=1\/ae=2):((oL ae b m (1:Int)).bind fun r1=>uA (oL ae b ((m+dx ae:Nat):Int) (65:Int)) ((m+dx ae:Nat):Int) ((m+dx ae+dx ae:Nat):Int) r1)=some (eU (match jf ae b m with
 | .inl e=>tc e
 | .inr x=>if x<9223372036854775808 then(x,0,((m+dx ae:Nat):Int),0) else
   match jf ae b (m+dx ae) with
   | .inl e=>tc e
   | .inr y=>if y=0 then tc 8 else(x-9223372036854775808,y,((m+dx ae+dx ae:Nat):Int),0))):=by
 have p1:=Qb ae b m 1 hb hm hs (by decide)
 rw[show((1:Nat):Int)=1 from rfl] at p1
 refine(congrArg (fun z=>Option.bind z _) p1).trans ?_
 cases hT:jf ae b m with
 |inl e=>exact(al3 (X9 hT)).trans (congrArg some (zju (X9 hT)).symm)
 |inr x=>
  obtain⟨hx,qO⟩:=Ti hs hT
  by_cases aq:x<9223372036854775808
  ·simp only[aq,if_true]
   have eC:elems x 0=pL x 1 64:=by rw[zqu,P9,List.append_nil]
   exact(aeS ((P8 x hx).1 aq)).trans (congrArg some (by rw[Og,eC]))
  ·simp only[aq,if_false]
   have ph:=(P8 x hx).2 aq
   have p2:=Qb ae b (m+dx ae) 65 hb (by omega) hs (by decide)
   rw[show((65:Nat):Int)=65 from rfl] at p2
   have eC:=zqu (x-9223372036854775808)
   have nD:=Gg (x-9223372036854775808) 1 64
   generalize x-9223372036854775808=x' at ph eC nD
   refine(congrArg (fun z=>uA z _ _ _) p2).trans ?_
   refine(congrArg (fun z=>uA _ _ _ (z,0)) ph).trans ?_
   cases hU:jf ae b (m+dx ae) with
   |inl e=>exact(aiv (X9 hU)).trans (congrArg some (zju (X9 hU)).symm)
   |inr y=>
    obtain⟨hy,qP⟩:=Ti hs hU
    by_cases hz:y=0
    ·simp only[hz,if_true]
     have e0:Au 65 (.inr 0)=([],0):=by
      show(pL 0 65 64,(0:Int))=_
      rw[P9]
     refine(congrArg (fun z=>uA (some z) _ _ _) e0).trans ?_
     exact aiw.trans (congrArg some (zju (by decide)).symm)
    ·simp only[hz,if_false]
     exact(aiu (aos hy hz) nD (Gg y 65 64)).trans (congrArg some (by rw[Og,eC]))
theorem aix(ae:Int)(b:ByteArray)(at_:Int)(hb:b.size<=1099511627776):vE ae b at_=some (eU (bm ae b at_)):=by
 unfold vE zx4 bm
 by_cases h0:at_<0
 ·rw[zT h0,if_neg (fun h=>by omega)]
  by_cases h1:ae=1<;>by_cases h2:ae=2<;>simp [h1,h2,eU,tc]
 by_cases h9:(b.size:Int)<at_
 ·rw[zF h0,zT h9,if_neg (fun h=>by omega)]
  by_cases h1:ae=1<;>by_cases h2:ae=2<;>simp [h1,h2,eU,tc]
 obtain⟨m,rfl⟩:∃m:Nat,at_=m:=⟨at_.toNat,by omega⟩
 rw[zF h0,zF h9]
 have wr:∀z:Nat,z<=64->zW zI ((m:Int)+(z:Int))=((m+z:Nat):Int):=fun z hz=>by rw[zi (by omega) (by omega)];omega
 by_cases h1:ae=1
 ·rw[zT h1,if_pos ⟨.inl h1,by omega,by omega⟩,Int.toNat_natCast]
  have hz:dx ae=16:=by rw[h1];rfl
  have:=QX ae b hb m (by omega) (.inl h1)
  rw[show m+dx ae+dx ae=m+32 by omega,hz,<-wr 16 (by decide),<-wr 32 (by decide)] at this
  rw[show m+dx ae+dx ae=m+32 by omega,hz,<-wr 16 (by decide),<-wr 32 (by decide)]
  exact this
 ·by_cases h2:ae=2
  ·rw[zF h1,zT h2,if_pos ⟨.inr h2,by omega,by omega⟩,Int.toNat_natCast]
   have hz:dx ae=8:=by rw[h2];rfl
   have:=QX ae b hb m (by omega) (.inr h2)
   rw[show m+dx ae+dx ae=m+16 by omega,hz,<-wr 8 (by decide),<-wr 16 (by decide)] at this
   rw[show m+dx ae+dx ae=m+16 by omega,hz,<-wr 8 (by decide),<-wr 16 (by decide)]
   exact this
  ·rw[zF h1,zF h2,if_neg (fun h=>h.1.elim h1 h2)];rfl
theorem NE(l:List Int)(base a:Nat):∀b,bA l base (a+b)=bA l base a*2^b+bA l (base+a) b
 |0=>by simp [bA]
 |b+1=>by
  rw[<-Nat.add_assoc,zf1,zf1,NE l base a b,Nat.pow_succ,show base+(a+b)+1=base+a+b+1 by omega]
  generalize(if((base+a+b+1:Nat):Int)∈l then 1 else 0)=e
  rw[<-Nat.mul_assoc]
  omega
def dX(l:List Int)(base n:Nat):List Int:=(List.range n).map fun j=>((bA l (base+8*j) 8:Nat):Int)
theorem zzc(l:List Int)(base n:Nat):dX l base (n+1)=dX l base n++ [((bA l (base+8*n) 8:Nat):Int)]:=by
 unfold dX
 rw[List.range_succ,List.map_append];rfl
theorem ND(l:List Int)(base:Nat):∀n,mL 0 (dX l base n)=bA l base (8*n)
 |0=>rfl
 |n+1=>by
  rw[zzc,Nz,ND l base n,Int.toNat_natCast,show 8*(n+1)=8*n+8 by omega,NE]
theorem ain(l:List Int)(base:Nat):dX l base 8=kd (bA l base 64):=by
 have h:=(G9 (l:=dX l base 8) (by unfold dX;rw[List.length_map,List.length_range]) fun y hy=>by
  unfold dX at hy
  obtain⟨j,_,rfl⟩:=List.mem_map.1 hy
  have:=RJ l (base+8*j) 8
  unfold zq
  omega).1
 rw[<-h]
 congr 1
 exact ND l base 8
theorem zxx(l:List Int)(hl:l.length<=maxLen)(base i:Nat)(hi:i<8)(hb:base<=64)(t:List Int):∀(m k K:Nat),k+m=8->m<K->
 Hp K l ((base+1:Nat):Int) t (i:Int) ((bA l (base+8*i) k:Nat):Int) (k:Int)=some (l,((base+1:Nat):Int),t,(i:Int),((bA l (base+8*i) 8:Nat):Int))
 |m,k,0,_,hK=>by omega
 |0,k,K+1,hk,hK=>by
  have:k=8:=by omega
  subst this
  unfold Hp S7
  rw[zF (by omega)];rfl
 |m+1,k,K+1,hk,hK=>by
  have ih:=zxx l hl base i hi hb t m (k+1) K (by omega) (by omega)
  have e1:zW zI ((8:Int)*(i:Int))=((8*i:Nat):Int):=by rw[zi (by omega) (by omega)];omega
  have e2:zW zI (((base+1:Nat):Int)+((8*i:Nat):Int))=((base+1+8*i:Nat):Int):=by rw[zi (by omega) (by omega)];omega
  have e3:zW zI (((base+1+8*i:Nat):Int)+(k:Int))=((base+8*i+k+1:Nat):Int):=by rw[zi (by omega) (by omega)];omega
  have hw:=RJ l (base+8*i) k
  have hp:2^k<=2^7:=Nat.pow_le_pow_right (by decide) (by omega)
  rw[show(2:Nat)^7=128 from rfl] at hp
  have hs:=zf1 l (base+8*i) k
  have u1:zW zU (((bA l (base+8*i) k:Nat):Int)*2)=((2*bA l (base+8*i) k:Nat):Int):=by
   rw[show((bA l (base+8*i) k:Nat):Int)*2=((2*bA l (base+8*i) k:Nat):Int) by omega,Gj,Nat.mod_eq_of_lt (by omega)]
  have u2:zW zU (((2*bA l (base+8*i) k:Nat):Int)+1)=((2*bA l (base+8*i) k+1:Nat):Int):=by
   rw[show((2*bA l (base+8*i) k:Nat):Int)+1=((2*bA l (base+8*i) k+1:Nat):Int) by omega,Gj,Nat.mod_eq_of_lt (by omega)]
  unfold Hp S7
  rw[zT (by omega),zC,e1,e2,e3,UK l _ hl,zc,u1,u2,zo (by omega)]
  by_cases hm:((base+8*i+k+1:Nat):Int)∈l
  ·rw[if_pos hm] at hs
   rw[zT hm,zC,<-hs]
   exact ih
  ·rw[if_neg hm] at hs
   replace hs:bA l (base+8*i) (k+1)=2*bA l (base+8*i) k:=hs
   rw[zF hm,zD,<-hs]
   exact ih
theorem zqp(l:List Int)(hl:l.length<=maxLen)(base:Nat)(hb:base<=64):∀(m i K:Nat),i+m=8->m<K->
 Ho K l ((base+1:Nat):Int) (dX l base i) (i:Int)=some (dX l base 8)
 |m,i,0,_,hK=>by omega
 |0,i,K+1,hi,hK=>by
  have:i=8:=by omega
  subst this
  unfold Ho S6
  rw[zF (by omega)];rfl
 |m+1,i,K+1,hi,hK=>by
  have h1:=zxx l hl base i (by omega) hb (dX l base i) 8 0 ah (by omega) (by rw[zn];omega)
  rw[show bA l (base+8*i) 0=0 from rfl,show((0:Nat):Int)=0 from rfl] at h1
  have hlen:(dX l base i).length=i:=by unfold dX;rw[List.length_map,List.length_range]
  unfold Ho S6
  rw[zT (by omega),zC]
  dsimp only
  rw[h1,zc]
  unfold zx9
  dsimp only
  rw[zT (by rw[hlen,List.length_singleton];omega),zC,zo (by omega),<-zzc]
  exact zqp l hl base hb m (i+1) K (by omega) (by omega)
theorem zee(l:List Int)(hl:l.length<=maxLen)(base:Nat)(hb:base<=64):uD l ((base+1:Nat):Int)=some (wB (bA l base 64)):=by
 unfold uD zx8
 have:=zqp l hl base hb 8 0 ah (by omega) (by rw[zn];omega)
 rw[show dX l base 0=[] from rfl,show((0:Nat):Int)=0 from rfl,ain] at this
 dsimp only
 rw[this];rfl
theorem Gf(ae:Int)(l:List Int)(hl:l.length<=maxLen):∀(m j K:Nat) (t:Bool),j+m=129->m<K->∃r:Bool,A7 K ae l t (j:Int)=some (ae,l,r)/\(r=true↔t=true\/∃n:Nat,j<=n/\n<=128/\(n:Int)∈l)
 |m,j,0,t,_,hK=>by omega
 |0,j,K+1,t,hj,hK=>by
  refine⟨t,?_,⟨fun h=> .inl h,fun h=>h.elim id fun⟨n,h1,h2,_⟩=>by omega⟩⟩
  unfold A7 S4
  rw[zF (by omega)];rfl
 |m+1,j,K+1,t,hj,hK=>by
  unfold A7 S4
  rw[zT (by omega),zC,zo (by omega),UK l _ hl,zc]
  cases t with
  |true=>
   obtain⟨r,h1,h2⟩:=Gf ae l hl m (j+1) K true (by omega) (by omega)
   exact⟨r,h1,⟨fun _=> .inl rfl,fun _=>h2.2 (.inl rfl)⟩⟩
  |false=>
   obtain⟨r,h1,h2⟩:=Gf ae l hl m (j+1) K (decide ((j:Int)∈l)) (by omega) (by omega)
   refine⟨r,h1,h2.trans ⟨fun h=> .inr ?_,fun h=> ?_⟩⟩
   ·rcases h with h|⟨n,n1,n2,n3⟩
    ·exact⟨j,Nat.le_refl _,by omega,of_decide_eq_true h⟩
    ·exact⟨n,by omega,n2,n3⟩
   ·rcases h with h|⟨n,n1,n2,n3⟩
    ·cases h
    ·by_cases e:n=j
     ·subst e;exact .inl (zT n3)
     ·exact .inr ⟨n,by omega,n2,n3⟩
theorem ahX(l:List Int):cj l=0↔¬∃n:Nat,65<=n/\n<=128/\(n:Int)∈l:=by
 have nE:∀n:Nat,65<=n->n<=128->bu (bY l) 0 (n:Int)=false:=fun n h1 h2=>by
  unfold bu
  rw[if_neg (by omega),if_pos (by omega),Nat.zero_testBit]
 constructor
 ·rintro h ⟨n,n1,n2,n3⟩
  have:=vg l n
  rw[h,nE n n1 n2,zT n3] at this
  unfold gS at this
  rw[zT (by omega)] at this
  cases this
 ·intro h
  refine(Yj (mQ l) (nV l) (mQ l) (by decide:(0:Nat)<cS) fun n n1 n2=> ?_).2
  by_cases h64:n<=64
  ·unfold bu
   rw[if_pos ⟨n1,h64⟩,if_pos ⟨n1,h64⟩]
  ·obtain⟨m,rfl⟩:∃m:Nat,n=m:=⟨n.toNat,by omega⟩
   rw[nE m (by omega) (by omega),vg,zF (fun hm=>h ⟨m,by omega,by omega,hm⟩)];rfl
theorem ap6(l:List Int):decide ((1:Int)∈l)= !decide (bY l<9223372036854775808):=by
 rw[<-PW (l:=cj l) (mQ l),vg]
 unfold gS
 rw[zT (p:=(1:Int)<=1/\(1:Int)<=128) (by decide),Bool.and_true]
theorem alJ(l:List Int)(h:bY l<9223372036854775808):bY (1::l)=bY l+9223372036854775808:=by
 rw[<-QZ h]
 have aq:bY l|||9223372036854775808<cS:=pZ (mQ l) (by decide)
 refine(Yj (mQ (1::l)) (nV (1::l)) aq (nV l) fun n n1 n2=> ?_).1
 have hw:=Ol (bY l) (cj l) 1 n
 rw[show gI 1=9223372036854775808 from by decide,show gJ 1=0 from by decide,Nat.or_zero] at hw
 rw[hw,vg,vg]
 by_cases e:n=1
 ·subst e
  simp [gS]
 ·simp [e,Ne.symm e]
theorem aiC(ae:Int)(l:List Int)(hl:l.length<=1000000):JP ae l=some ((dc ae (bY l) (cj l)).1,decide ((dc ae (bY l) (cj l)).2=0)):=by
 have qM:l.length<=maxLen:=by simp only[maxLen];omega
 have aas:([(1:Int)]++l).length<=maxLen:=by simp only[maxLen,List.length_append,List.length_singleton];omega
 obtain⟨r,eV,eN⟩:=Gf ae l qM 64 65 ah false (by omega) (by rw[zn];omega)
 rw[show((65:Nat):Int)=65 from rfl] at eV
 have hr:r= !decide (cj l=0):=by
  have:=(ahX l)
  by_cases h0:cj l=0
  ·rw[zT h0]
   cases r with
   |false=>rfl
   |true=>exact absurd ((eN.1 rfl).elim (fun h=>by cases h) id) (this.1 h0)
  ·rw[zF h0]
   cases r with
   |true=>rfl
   |false=>
    have hex:∃n:Nat,65<=n/\n<=128/\(n:Int)∈l:=Classical.byContradiction fun h=>h0 (this.2 h)
    have:=eN.2 (.inr hex)
    cases this
 have w1:uD l 1=some (wB (bY l)):=by
  have:=zee l qM 0 (by decide)
  rw[(zts l).1] at this;exact this
 have w2:uD l 65=some (wB (cj l)):=by
  have:=zee l qM 64 (by decide)
  rw[(zts l).2] at this;exact this
 have w3:uD ([(1:Int)]++l) 1=some (wB (bY (1::l))):=by
  have:=zee ([(1:Int)]++l) aas 0 (by decide)
  rw[(zts ([(1:Int)]++l)).1] at this;exact this
 have fin:∀t:ByteArray,t.size<=16->(bif decide (ae=1) then(vC t).bind fun r6=>some (r6,true) else some (t,true))=some (fe ae t,true):=fun t ht=>by
  unfold fe
  by_cases hs:ae=1
  ·rw[zT hs,zC,NI t (by omega),if_pos hs];rfl
  ·rw[zF hs,if_neg hs];rfl
 have main:(ae=1\/ae=2)->((uC l (1:Int)).bind fun r1=>(bif r1 then some (bs [],false) else((A7 ah ae l false (65:Int)).bind fun e=>S5 e.1 e.2.1 e.2.2 (fun a0 a1=>some (a0,a1)))))=some ((dc ae (bY l) (cj l)).1,decide ((dc ae (bY l) (cj l)).2=0)):=fun hs=>by
  rw[UK l _ qM,zc,ap6]
  by_cases h2:bY l<9223372036854775808
  case neg=>
   rw[zF h2,Bool.not_false,zC]
   unfold dc
   rw[if_neg (fun h=>h2 h.2)];rfl
  rw[zT h2,Bool.not_true,zD,eV,zc,ztb hs h2]
  unfold S5
  dsimp only
  rw[w1,zc,hr]
  by_cases hz:cj l=0
  ·rw[zT hz,Bool.not_true,zD,if_pos hz]
   exact fin (wB _) (by rw[rL];decide)
  ·rw[zF hz,Bool.not_false,zC,if_neg hz,zT (by simp only[List.length_singleton];omega),zC,w3,zc,w2,zc,zT (by rw[rL,rL];decide),zC,alJ l h2,<-zqw]
   exact fin (wB _++wB _) (by rw[z31,rL,rL];decide)
 unfold JP IP
 by_cases h1:ae=1
 ·rw[zT h1]
  exact main (.inl h1)
 ·rw[zF h1]
  by_cases h2:ae=2
  ·rw[zT h2]
   exact main (.inr h2)
  ·rw[zF h2]
   unfold dc
   rw[if_neg (fun h=>h.1.elim h1 h2)];rfl
def zy(m:ByteArray):Bool:=decide ((m.size:Int)=4)&&bh (bl m)
theorem mW{m:ByteArray}:zy m=true↔m.size=4/\bh (bl m)=true:=by
 unfold zy
 rw[Bool.and_eq_true,decide_eq_true_eq]
 constructor<;>intro h<;>exact⟨by omega,h.2⟩
theorem zb7(m:ByteArray)(h:m.size<=maxLen):ng m=some (zy m):=by
 unfold ng WB zy
 cases decide ((m.size:Int)=4) with
 |false=>rfl
 |true=>rw[zC,Ym m h];rfl
theorem ze1(m:ByteArray)(h:m.size<=maxLen):jj m=some (zy m):=by
 unfold jj UY zy
 cases decide ((m.size:Int)=4) with
 |false=>rfl
 |true=>rw[zC,Us m h];rfl
theorem qa{m:ByteArray}(h:zy m=true)(i:Nat)(hi:i<4):48<=ze m i/\ze m i<=57:=by
 obtain⟨h1,h2⟩:=mW.1 h
 have hl:i<(bl m).length:=by rw[zg];omega
 have:=List.all_eq_true.1 h2 _ (List.getElem_mem hl)
 rw[lM,List.getD_eq_getElem?_getD,List.getElem?_eq_getElem hl]
 exact of_decide_eq_true this
def dD(m:ByteArray):Int:=bif zy m then ze m 0-48 else 0
def dv(m:ByteArray):Bool:=zy m&&(decide (ze m 2=48)||decide (ze m 2=50))
theorem T7(m:ByteArray)(h:m.size<=maxLen):iO m=some (dD m,zy m):=by
 unfold iO WC dD
 rw[zb7 m h,Option.bind_some]
 cases hr:zy m with
 |false=>rfl
 |true=>
  obtain⟨h1,_⟩:=mW.1 hr
  have:=qa hr 0 (by omega)
  simp only[Bool.not_true,zD,zC]
  rw[zl (by omega) (by omega),show(0:Int).toNat=0 from rfl,ui (by omega) (by omega),zi (by omega) (by omega)]
theorem ze0(m:ByteArray)(h:m.size<=maxLen):nf m=some (dv m):=by
 unfold nf Wz dv
 rw[zb7 m h,Option.bind_some]
 cases hr:zy m with
 |false=>rfl
 |true=>
  obtain⟨h1,_⟩:=mW.1 hr
  rw[zC,zl (by omega) (by omega),zl (by omega) (by omega),show(2:Int).toNat=2 from rfl]
  cases decide (ze m 2=48)<;>rfl
theorem z9x(m:ByteArray)(h:m.size<=maxLen):m6 m=some (dv m):=by
 unfold m6 UW dv
 rw[Ut m h,Option.bind_some]
 unfold cW
 by_cases h4:m.size=4
 ·cases hd:bh (bl m) with
  |false=>
   rw[if_neg (by simp)]
   have:zy m=false:=by unfold zy;rw[hd,Bool.and_false]
   rw[this];rfl
  |true=>
   have hr:zy m=true:=mW.2 ⟨h4,hd⟩
   rw[if_pos ⟨by rw[zg];omega,by rw[zg];omega,rfl⟩,hr]
   dsimp only
   rw[zC,zT (by omega),zC,Bool.true_and]
   have hl:(bl m).length=4:=by rw[zg,h4]
   obtain⟨d0,d1,d2,d3,hb⟩:∃d0 d1 d2 d3,bl m=[d0,d1,d2,d3]:=by
    match hm:bl m,hl with
    | [d0,d1,d2,d3],_=>exact⟨d0,d1,d2,d3,rfl⟩
   have h0:=qa hr 0 (by omega)
   have h1:=qa hr 1 (by omega)
   have h2:=qa hr 2 (by omega)
   have h3:=qa hr 3 (by omega)
   rw[lM,hb] at h0 h1 h2 h3
   rw[lM,hb]
   simp only[List.getD_cons_zero,List.getD_cons_succ] at h0 h1 h2 h3⊢
   have hv:c8 [d0,d1,d2,d3] 0=1000*(d0-48)+100*(d1-48)+10*(d2-48)+(d3-48):=by
    simp only[c8,List.foldl_cons,List.foldl_nil];omega
   have hq:Int.tmod (zW zI (Int.tdiv (c8 [d0,d1,d2,d3] 0) 10)) 10=d2-48:=by
    rw[hv,Int.tdiv_eq_ediv_of_nonneg (by omega),zi (by omega) (by omega),Int.tmod_eq_emod_of_nonneg (by omega)]
    omega
   rw[hq]
   by_cases e1:d2=48
   ·rw[zT e1,zT (by omega:d2-48=0)];rfl
   ·rw[zF e1,zF (by omega:¬d2-48=0),zD,Bool.false_or]
    congr 1
    exact decide_eq_decide.2 (by omega)
 ·have:zy m=false:=by
   unfold zy
   rw[zF (by omega),Bool.false_and]
  rw[this]
  cases(if 1<=(bl m).length/\(bl m).length<=18/\bh (bl m)=true then(c8 (bl m) 0,true) else((0:Int),false)).2 with
  |false=>rfl
  |true=>rw[zC,zF (by omega)];rfl
def hJ(m:ByteArray)(v:Int):Bool:=zy m&&decide (ze m 0-48=v)
theorem zkm(m:ByteArray)(v:Int)(h:m.size<=maxLen):ql m v=some (hJ m v):=by
 unfold ql VT hJ
 rw[ze1 m h,Option.bind_some]
 cases hr:zy m with
 |false=>rfl
 |true=>
  obtain⟨h1,_⟩:=mW.1 hr
  have:=qa hr 0 (by omega)
  have w1:zW zI (ze m 0)=ze m 0:=zi (by omega) (by omega)
  rw[zC,zl (by omega) (by omega),show(0:Int).toNat=0 from rfl,w1,zi (by omega) (by omega)]
  rfl
def m3(p:bj)(a b:zf):Bool:=hJ p.1 a.2.1&&(hJ p.2.1 b.2.1&&(dv p.1==dv p.2.1))
theorem alT(p:bj)(a b:zf)(h1:p.1.size<=maxLen)(h2:p.2.1.size<=maxLen):np p a b=some (m3 p a b):=by
 unfold np X5 m3 hJ
 rw[T7 _ h1,T7 _ h2,ze0 _ h1,ze0 _ h2]
 simp only[Option.bind_some]
 unfold dD
 cases zy p.1 with
 |false=>rfl
 |true=>
  cases zy p.2.1 with
  |false=>simp
  |true=>
   simp only[zC,Bool.true_and]
   cases decide (ze p.1 0-48=a.2.1) with
   |false=>rfl
   |true=>
    cases decide (ze p.2.1 0-48=b.2.1) with
    |false=>rfl
    |true=>rfl
abbrev bc:=ByteArray×List aI×Unit
abbrev bE:=Int×Int×Unit
abbrev eQ:aI:=(0,bs [],())
abbrev zu:bE:=(0,0,())
structure dm(m:bc):Prop where
 pW:m.1.size<=9223372036854775807
 len:m.2.1.length<=1000000
 mJ:∀v∈m.2.1,v.2.1.size<=1099511627776
def dF(l:List aI)(no:Int):List aI:=l.filter fun v=> !decide (v.1=no)
theorem zjh(l:List aI)(no:Int):(dF l no).length<=l.length:=List.length_filter_le _ _
theorem T6(no:Int)(fin:bc×bc->Option (bc×bc)):∀(l:List aI) (i:Int) (s:bc×bc),s.2.2.1.length+l.length<=1000000000->
 aU (fun i (x:aI) (s:bc×bc) K=>(bif(!(decide (x.1=no))) then(bif(decide ((s.2.2.1.length+(List.length ([x]:List aI)))*24<=140737488355328)) then K (s.1,(s.2.1,(s.2.2.1++([x]:List aI)),())) else none) else K s)) fin l i s=fin (s.1,(s.2.1,s.2.2.1++dF l no,()))
 | [],i,s,_=>by
   show fin s=_
   simp [dF]
 |x::r,i,s,h=>by
  simp only[List.length_cons] at h
  rw[aU]
  by_cases hx:x.1=no
  ·rw[zT hx,Bool.not_true,zD]
   refine(T6 no fin r (i+1) s (by omega)).trans ?_
   simp [dF,hx]
  ·rw[zF hx,Bool.not_false,zC,zT (by simp only[List.length_singleton];omega),zC]
   refine(T6 no fin r (i+1) (s.1,(s.2.1,s.2.2.1++ [x],())) (by simp only[List.length_append,List.length_singleton];omega)).trans ?_
   simp [dF,hx]
theorem adi(m:bc)(no:Int)(h:m.2.1.length<=1000000):sE m no=some (m.1,dF m.2.1 no,()):=by
 unfold sE Wy
 dsimp only
 have:=b7 eQ m.2.1 (by rw[zj];omega) (fun i (x:aI) (s:bc×bc) K=>(bif(!(decide (x.1=no))) then(bif(decide ((s.2.2.1.length+(List.length ([x]:List aI)))*24<=140737488355328)) then K (s.1,(s.2.1,(s.2.2.1++([x]:List aI)),())) else none) else K s)) (fun s=>some s)
  (fun k i s=>Sk k no m.2.1 (m.2.1.length:Int) i s.1 s.2) (fun k i s=>rfl) ((bs [],[],()),(m.1,[],()))
 rw[this,T6 no _ _ _ _ (by simp;omega)]
 rfl
def bT(no:Int):List aI->Int->Int
 | [],_=> -1
 |x::r,i=>if no<x.1 then i else bT no r (i+1)
theorem Rm(no:Int):∀(l:List aI) (i:Int),0<=i->(bT no l i= -1/\∀x∈l,x.1<=no)\/(i<=bT no l i/\bT no l i<i+l.length)
 | [],i,h=> .inl ⟨rfl,fun x hx=>by cases hx⟩
 |x::r,i,h=>by
  unfold bT
  by_cases hx:no<x.1
  ·rw[if_pos hx];right;simp only[List.length_cons];omega
  ·rw[if_neg hx]
   rcases Rm no r (i+1) (by omega) with⟨h1,h2⟩|h1
   ·left
    refine⟨h1,fun y hy=> ?_⟩
    rcases List.mem_cons.1 hy with rfl|hy
    ·omega
    ·exact h2 y hy
   ·right;simp only[List.length_cons];omega
def exV(r no:Int):Sum (Int×Int) Int:=bif decide (r<0) then .inr no else .inl (r,no)
theorem M7(no:Int):∀(l:List aI) (i:Int),0<=i->aU (fun i (x:aI) (s:Int) K=>((sD x s).bind fun r1=>(bif r1.1 then some (Sum.inl (i,r1.2)) else K r1.2))) (fun s=>some (Sum.inr s)) l i no=some (exV (bT no l i) no)
 | [],i,h=>rfl
 |x::r,i,h=>by
  rw[aU,bT]
  show(bif decide (no<x.1) then some (Sum.inl (i,no)) else aU _ _ r (i+1) no)=_
  by_cases hx:no<x.1
  ·rw[zT hx,zC,if_pos hx]
   unfold exV
   rw[zF (by omega)];rfl
  ·rw[zF hx,zD,if_neg hx]
   exact M7 no r (i+1) (by omega)
theorem adZ(l:List aI)(no:Int)(h:l.length<=1000000):sQ l no=some (bT no l 0,no):=by
 unfold sQ Xk
 dsimp only
 have:=b7 eQ l (by rw[zj];omega) (fun i (x:aI) (s:Int) K=>((sD x s).bind fun r1=>(bif r1.1 then some (Sum.inl (i,r1.2)) else K r1.2))) (fun s=>some (Sum.inr s))
  (fun k i s=>Sv k l (l.length:Int) i s) (fun k i s=>rfl) no
 rw[this,M7 no l 0 (Int.le_refl _),zc]
 unfold exV
 rcases Rm no l 0 (Int.le_refl _) with⟨h1,_⟩|h1
 ·rw[h1];rfl
 ·rw[zF (by omega)];rfl
theorem ahU(old:List aI)(at_:Nat)(v d:aI)(h:at_<=old.length):
 bJ (List.set (bJ (List.replicate (old.length+1) d) (List.take (old.length+1) (List.drop 0 (List.take at_ old))) 0) at_ v) (List.take (old.length+1-(at_+1)) (List.drop at_ (List.take old.length old))) (at_+1)=old.take at_++v::old.drop at_:=by
 have e1:List.take (old.length+1) (List.drop 0 (List.take at_ old))=old.take at_:=by
  rw[List.drop_zero,List.take_take,Nat.min_eq_right (by omega)]
 have e2:List.take (old.length+1-(at_+1)) (List.drop at_ (List.take old.length old))=old.drop at_:=by
  rw[List.take_length,List.take_of_length_le (by rw[List.length_drop];omega)]
 rw[e1,e2]
 have hl:(old.take at_).length=at_:=by rw[List.length_take];omega
 have e3:bJ (List.replicate (old.length+1) d) (old.take at_) 0=old.take at_++List.replicate (old.length+1-at_) d:=by
  unfold bJ
  rw[List.take_zero,List.nil_append,hl,Nat.zero_add,List.drop_replicate]
 obtain⟨n,hn⟩:∃n,old.length+1-at_=n+1:=⟨old.length-at_,by omega⟩
 have e4:List.set (old.take at_++List.replicate (old.length+1-at_) d) at_ v=old.take at_++v::List.replicate n d:=by
  rw[hn,List.replicate_succ,List.set_append,if_neg (by omega),hl,Nat.sub_self,List.set_cons_zero]
 rw[e3,e4]
 unfold bJ
 have e5:(old.take at_++v::List.replicate n d).take (at_+1)=old.take at_++ [v]:=by
  rw[List.take_append,hl,show at_+1-at_=1 by omega,List.take_of_length_le (by omega)];rfl
 have e6:(old.take at_++v::List.replicate n d).drop (at_+1+(old.drop at_).length)=[]:=by
  apply List.drop_eq_nil_of_le
  rw[List.length_append,hl,List.length_cons,List.length_replicate,List.length_drop]
  omega
 rw[e5,e6,List.append_nil,List.append_assoc]
 rfl
theorem NC(q t:ByteArray)(no:Int)(old:List aI)(at_:Nat)(h:at_<=old.length)(hl:old.length<=1000000):
 (bif(decide ((zW zI (((List.length old):Int)+(1:Int)))=(zW zI (((List.length old):Int)+(1:Int))))) then(bif(decide ((0:Int)<=(zW zI (((List.length old):Int)+(1:Int))))) then(bif(decide ((zW zI (((List.length old):Int)+(1:Int)))*24<=140737488355328)) then(bif(decide ((0:Int)<=((at_:Nat):Int))) then(bif(decide (((at_:Nat):Int)<=(((List.length old):Nat):Int))) then(bif(Nat.beq ((zW zI (((List.length old):Int)+(1:Int)))).toNat (List.length (List.replicate ((zW zI (((List.length old):Int)+(1:Int)))).toNat ((0:Int),(bs []),())))) then(zd ((at_:Nat):Int) ((zW zI (((List.length old):Int)+(1:Int)))).toNat (bif(Nat.ble ((((at_:Nat):Int)).toNat+1) (List.length (bJ (List.replicate ((zW zI (((List.length old):Int)+(1:Int)))).toNat ((0:Int),(bs []),())) (List.take ((zW zI (((List.length old):Int)+(1:Int)))).toNat (List.drop 0 (List.take (((at_:Nat):Int)).toNat old))) 0))) then(bif(decide ((0:Int)<=(zW zI (((at_:Nat):Int)+(1:Int))))) then(bif(decide ((zW zI (((at_:Nat):Int)+(1:Int)))<=((((zW zI (((List.length old):Int)+(1:Int)))).toNat:Nat):Int))) then(bif(decide ((0:Int)<=((at_:Nat):Int))) then(bif(decide (((at_:Nat):Int)<=(((List.length old):Nat):Int))) then(bif(Nat.beq ((zW zI (((List.length old):Int)+(1:Int)))).toNat (List.length (List.set (bJ (List.replicate ((zW zI (((List.length old):Int)+(1:Int)))).toNat ((0:Int),(bs []),())) (List.take ((zW zI (((List.length old):Int)+(1:Int)))).toNat (List.drop 0 (List.take (((at_:Nat):Int)).toNat old))) 0) (((at_:Nat):Int)).toNat (no,t,())))) then(bif(Nat.ble ((zW zI (((at_:Nat):Int)+(1:Int)))).toNat ((zW zI (((List.length old):Int)+(1:Int)))).toNat) then(bif(Nat.beq ((zW zI (((List.length old):Int)+(1:Int)))).toNat (List.length (bJ (List.set (bJ (List.replicate ((zW zI (((List.length old):Int)+(1:Int)))).toNat ((0:Int),(bs []),())) (List.take ((zW zI (((List.length old):Int)+(1:Int)))).toNat (List.drop 0 (List.take (((at_:Nat):Int)).toNat old))) 0) (((at_:Nat):Int)).toNat (no,t,())) (List.take (((zW zI (((List.length old):Int)+(1:Int)))).toNat-((zW zI (((at_:Nat):Int)+(1:Int)))).toNat) (List.drop (((at_:Nat):Int)).toNat (List.take (List.length old) old))) ((zW zI (((at_:Nat):Int)+(1:Int)))).toNat))) then(some (q,(bJ (List.set (bJ (List.replicate ((zW zI (((List.length old):Int)+(1:Int)))).toNat ((0:Int),(bs []),())) (List.take ((zW zI (((List.length old):Int)+(1:Int)))).toNat (List.drop 0 (List.take (((at_:Nat):Int)).toNat old))) 0) (((at_:Nat):Int)).toNat (no,t,())) (List.take (((zW zI (((List.length old):Int)+(1:Int)))).toNat-((zW zI (((at_:Nat):Int)+(1:Int)))).toNat) (List.drop (((at_:Nat):Int)).toNat (List.take (List.length old) old))) ((zW zI (((at_:Nat):Int)+(1:Int)))).toNat),())) else none) else none) else none) else none) else none) else none) else none) else none)) else none) else none) else none) else none) else none) else none)=some (q,old.take at_++(no,t,())::old.drop at_,()):=by
 have w1:zW zI ((old.length:Int)+1)=((old.length+1:Nat):Int):=zo (by omega)
 have w2:zW zI ((at_:Int)+1)=((at_+1:Nat):Int):=zo (by omega)
 simp only[w1,w2,Int.toNat_natCast]
 have key:=ahU old at_ (no,t,()) ((0:Int),bs [],()) h
 have l1:(bJ (List.replicate (old.length+1) ((0:Int),(bs []),())) (List.take (old.length+1) (List.drop 0 (List.take at_ old))) 0).length=old.length+1:=by
  unfold bJ;simp;omega
 have l2:(old.take at_++(no,t,())::old.drop at_).length=old.length+1:=by
  rw[List.length_append,List.length_take,List.length_cons,List.length_drop];omega
 have d2:decide ((0:Int)<=((old.length+1:Nat):Int))=true:=zT (by omega)
 have d3:decide (((old.length+1:Nat):Int)*24<=140737488355328)=true:=zT (by omega)
 have d4:decide ((0:Int)<=(at_:Int))=true:=zT (by omega)
 have d5:decide ((at_:Int)<=(old.length:Int))=true:=zT (by omega)
 have d9:decide ((0:Int)<=((at_+1:Nat):Int))=true:=zT (by omega)
 have d10:decide (((at_+1:Nat):Int)<=((old.length+1:Nat):Int))=true:=zT (by omega)
 have b1:Nat.ble (at_+1) (old.length+1)=true:=Nat.ble_eq_true_of_le (by omega)
 have hw:∀{R:Type} (x:Option R),zd (at_:Int) (old.length+1) x=x:=fun x=>zh (by omega)
 simp only[decide_true,zC,d2,d3,d4,d5,List.length_replicate,Nat.beq_refl,hw,l1,b1,d9,d10,List.length_set,key,l2]
def lr(l:List aI)(no:Int)(t:ByteArray):List aI:=
 bif decide (bT no l 0<0) then l++ [(no,t,())] else l.take (bT no l 0).toNat++(no,t,())::l.drop (bT no l 0).toNat
def dq(m:bc)(no:Int)(t:ByteArray):bc:=(m.1,lr (dF m.2.1 no) no t,())
theorem Uv(m:bc)(no:Int)(t:ByteArray)(h:m.2.1.length<=1000000):gB m no t=some (dq m no t):=by
 unfold gB Ww dq
 have hl:=zjh m.2.1 no
 rw[adi m no h,zc]
 dsimp only
 generalize dF m.2.1 no=old at*
 rw[adZ old no (by omega),zc]
 dsimp only
 unfold lr
 rcases Rm no old 0 (Int.le_refl _) with⟨h1,_⟩|h1
 ·rw[h1,zT (by omega:(-1:Int)<0),zC,zC]
  refine(NC m.1 t no old old.length (Nat.le_refl _) (by omega)).trans ?_
  rw[List.take_length,List.drop_length]
 ·rw[zF (by omega:¬bT no old 0<0),zD,zD]
  obtain⟨n,hn⟩:∃n:Nat,bT no old 0=n:=⟨(bT no old 0).toNat,by omega⟩
  rw[hn]
  refine(NC m.1 t no old n (by omega) (by omega)).trans ?_
  rw[Int.toNat_natCast]
def p9(s:zf):List aI->Int->Option bE
 | [],_=>none
 |x::r,last=>bif decide (x.1<=last) then some (11,x.1,()) else bif !bg s x.1 then some (9,x.1,()) else bif !decide (bk (aO s x.1) x.2.1=0) then some (bk (aO s x.1) x.2.1,x.1,()) else p9 s r x.1
def Yb(o:Option bE):Option (Sum bE bE):=some (match o with
 |some f=> .inl f
 |none=> .inr zu)
theorem zek(s:zf)(hs:s.2.2.1.length<=maxLen):∀(l:List aI) (i last:Int),(∀v∈l,v.2.1.size<=1099511627776)->
 aU (fun i (x:aI) (t9:Int) K=>(bif(decide (x.1<=t9)) then some (Sum.inl ((11:Int),x.1,())) else((fb s x.1).bind fun r3=>(bif(!r3.2) then some (Sum.inl ((9:Int),x.1,())) else((bH r3.1 x.2.1).bind fun r4=>(bif(!(decide (r4=(0:Int)))) then some (Sum.inl (r4,x.1,())) else K x.1)))))) (fun _=>some (Sum.inr zu)) l i last=Yb (p9 s l last)
 | [],i,last,_=>rfl
 |x::r,i,last,h=>by
  rw[aU,p9,xv s _ hs,zc]
  cases decide (x.1<=last) with
  |true=>rfl
  |false=>
   rw[zD,zD]
   dsimp only
   cases bg s x.1 with
   |false=>rfl
   |true=>
    rw[Bool.not_true,zD,zD,uR _ _ (h x List.mem_cons_self),zc]
    cases decide (bk (aO s x.1) x.2.1=0) with
    |false=>rfl
    |true=>
     rw[Bool.not_true,zD,zD]
     exact zek s hs r (i+1) x.1 (fun v hv=>h v (List.mem_cons_of_mem _ hv))
def eO(s:zf)(m:bc):bE:=
 bif !decide ((fY s).1=0) then(1,-1,()) else bif !zy m.1 then(7,0,()) else bif !decide (dD m.1=s.2.1) then(7,0,()) else match p9 s m.2.1 0 with
  |some f=>f
  |none=>zu
theorem zra(s:zf)(m:bc)(hs:s.2.2.1.length<=maxLen)(h:dm m):qo s m=some (eO s m):=by
 unfold qo Wr eO
 rw[RA s hs,zc,T7 m.1 (by rw[zj];exact h.pW),zc]
 cases decide ((fY s).1=0) with
 |false=>rfl
 |true=>
  rw[Bool.not_true,zD,zD]
  dsimp only
  cases zy m.1 with
  |false=>rfl
  |true=>
   rw[Bool.not_true,zD,zD]
   cases decide (dD m.1=s.2.1) with
   |false=>rfl
   |true=>
    rw[Bool.not_true,zD,zD]
    have hl:=h.len
    have:=b7 eQ m.2.1 (by rw[zj];omega) (fun i (x:aI) (t9:Int) K=>(bif(decide (x.1<=t9)) then some (Sum.inl ((11:Int),x.1,())) else((fb s x.1).bind fun r3=>(bif(!r3.2) then some (Sum.inl ((9:Int),x.1,())) else((bH r3.1 x.2.1).bind fun r4=>(bif(!(decide (r4=(0:Int)))) then some (Sum.inl (r4,x.1,())) else K x.1)))))) (fun _=>some (Sum.inr zu))
     (fun k i t9=>Sh k t9 m.2.1 (m.2.1.length:Int) i s zu) (fun k i t9=>rfl) 0
    rw[this,zek s hs _ _ _ h.mJ]
    unfold Yb
    cases p9 s m.2.1 0<;>rfl
theorem acB(s:zf)(m:bc)(hs:s.2.2.1.length<=maxLen)(h:dm m)(last:Int):va ah last 0 s m zu=Yb (p9 s m.2.1 last):=by
 have hl:=h.len
 rw[<-zek s hs m.2.1 0 last h.mJ]
 refine fH eQ m.2.1 (by rw[zj];omega) (fun i (x:aI) (t9:Int) K=>(bif(decide (x.1<=t9)) then some (Sum.inl ((11:Int),x.1,())) else((fb s x.1).bind fun r3=>(bif(!r3.2) then some (Sum.inl ((9:Int),x.1,())) else((bH r3.1 x.2.1).bind fun r4=>(bif(!(decide (r4=(0:Int)))) then some (Sum.inl (r4,x.1,())) else K x.1)))))) (fun _=>some (Sum.inr zu))
  (fun k i t9=>va k t9 i s m zu) (fun k i t9 h0 h1=> ?_) (fun k t9=> ?_) last
 ·show va (k+1) t9 i s m zu=_
  conv=>lhs;unfold va RM
  rw[zT h1,zC,zl h0 h1]
  have hx:(List.getD m.2.1 i.toNat ((0:Int),bs [],()))∈m.2.1:=by
   rw[List.getD_eq_getElem?_getD,List.getElem?_eq_getElem (by omega)]
   exact List.getElem_mem _
  show _=(bif(decide ((List.getD m.2.1 i.toNat ((0:Int),bs [],())).1<=t9)) then _ else _)
  generalize hxx:(List.getD m.2.1 i.toNat ((0:Int),bs [],()))=x at*
  cases decide (x.1<=t9) with
  |true=>rfl
  |false=>
   rw[zD,zD,AQ s _ hs,zc,xv s _ hs,zc]
   rcases AR s x.1 with⟨i1,i2,i3⟩|⟨i1,i2,i3,i4⟩
   ·rw[i1,i2,zT (by omega:(-1:Int)<0)];rfl
   ·rw[zF (by omega:¬dN s.2.2.1 x.1 0<0),zD,i3,Bool.not_true,zD,zl i1 i2,zl h0 h1,i4,ur _ _ (h.mJ x hx),zc,uR _ _ (h.mJ x hx),zc]
 ·show va (k+1) t9 m.2.1.length s m zu=_
  conv=>lhs;unfold va RM
  rw[zF (by omega),zD]
theorem adS(s:zf)(m:bc)(hs:s.2.2.1.length<=maxLen)(h:dm m):rU s m=some (eO s m):=by
 unfold rU U0 eO
 rw[Rn s hs,zc,ze1 m.1 (by rw[zj];exact h.pW),zc]
 cases decide ((fY s).1=0) with
 |false=>rfl
 |true=>
  rw[Bool.not_true,zD,zD]
  cases hr:zy m.1 with
  |false=>rfl
  |true=>
   obtain⟨r1,_⟩:=mW.1 hr
   have hd:=qa hr 0 (by omega)
   rw[Bool.not_true,zD,zD,zl (by omega) (by omega)]
   have hv:dD m.1=ze m.1 0-48:=by unfold dD;rw[hr];rfl
   have e1:zW zI (ze m.1 0)=ze m.1 0:=zi (by omega) (by omega)
   rw[show((0:Int)).toNat=0 from rfl,e1,zi (by omega) (by omega),<-hv]
   cases decide (dD m.1=s.2.1) with
   |false=>rfl
   |true=>
    rw[Bool.not_true,zD,zD]
    dsimp only
    rw[acB s m hs h 0]
    unfold Yb
    cases p9 s m.2.1 0<;>rfl
theorem aom{a b:bc}:a=b↔a.1=b.1/\a.2.1=b.2.1:=⟨fun h=>by rw[h];exact⟨rfl,rfl⟩,fun h=>Prod.ext h.1 (Prod.ext h.2 rfl)⟩
abbrev Map:=List bj×List aN×Unit
structure c9(m:Map):Prop where
 mC:dO m.1
 len:m.2.1.length<=1000000
 rules:∀r∈m.2.1,dZ r
def dT(a b:zf):List ByteArray->List bj->Int->Option (Int×Int)
 |_,[],_=>none
 |seen,p::r,i=>if m3 p a b=true then(if p.1∈seen then some (10,i) else dT a b (seen++ [p.1]) r (i+1)) else some (7,i)
abbrev Xr:=Sum (Int×Int×Int×Map×zf×zf) (Map×zf×zf)
def mD(m:Map)(a b:zf)(o:Option (Int×Int)):Option Xr:=some (match o with
 |some e=> .inl (e.1,2,e.2,m,a,b)
 |none=> .inr (m,a,b))
theorem OD(m:Map)(a b:zf):∀(l:List bj) (i:Int) (seen:List ByteArray),(∀p∈l,p.1.size<=1099511627776/\p.2.1.size<=1099511627776)->
 aU (fun i (x:bj) (s:List gF) K=>((np x a b).bind fun r2=>(bif(!r2) then some (Sum.inl ((7:Int),(2:Int),i,m,a,b)) else(bif eF (fy .str) false s x.1 then some (Sum.inl ((10:Int),(2:Int),i,m,a,b)) else(bif eG (fy .str) s x.1 then none else K (s++ [(x.1,true)])))))) (fun _=>some (Sum.inr (m,a,b))) l i (dz seen)=mD m a b (dT a b seen l i)
 | [],i,seen,_=>rfl
 |p::r,i,seen,h=>by
  obtain⟨h1,h2⟩:=h p List.mem_cons_self
  simp only[aU,dT]
  rw[alT p a b (by rw[zj];omega) (by rw[zj];omega),Option.bind_some]
  cases m3 p a b with
  |false=>rw[if_neg (by simp)];rfl
  |true=>
   rw[if_pos rfl]
   simp only[Bool.not_true,zD]
   have e1:=Um (fy .str) (fun _ _=>rfl) p.1 seen
   have e2:=Un (fy .str) (fun _ _=>rfl) p.1 seen
   by_cases hm:p.1∈seen
   ·rw[e1.2 hm,if_pos hm];rfl
   ·rw[Gr e1 hm,Gr e2 hm,if_neg hm,zD,zD,zac]
    exact OD m a b r (i+1) (seen++ [p.1]) fun q hq=>h q (List.mem_cons_of_mem _ hq)
theorem ahF(m:Map)(a b:zf)(h:dO m.1):Is ah m.1 (m.1.length:Int) 0 m a b []=mD m a b (dT a b [] m.1 0):=by
 have hl:=h.len
 have:=b7 iH m.1 (by rw[zj];omega) (fun i (x:bj) (s:List gF) K=>((np x a b).bind fun r2=>(bif(!r2) then some (Sum.inl ((7:Int),(2:Int),i,m,a,b)) else(bif eF (fy .str) false s x.1 then some (Sum.inl ((10:Int),(2:Int),i,m,a,b)) else(bif eG (fy .str) s x.1 then none else K (s++ [(x.1,true)])))))) (fun _=>some (Sum.inr (m,a,b)))
  (fun k i s=>Is k m.1 (m.1.length:Int) i m a b s) (fun k i s=>rfl) []
 rw[this]
 exact OD m a b m.1 0 [] h.sz
theorem agQ(f:ByteArray)(l:List bj):(zp l f).2=true↔f∈l.map fun p=>p.1:=by
 unfold zp
 induction l with
 |nil=>simp
 |cons p r ih=>
  rw[List.find?_cons,List.map_cons,List.mem_cons]
  by_cases h:p.1=f
  ·rw[zT h];exact⟨fun _=> .inl h.symm,fun _=>rfl⟩
  ·rw[zF h]
   exact ih.trans ⟨.inr,fun h'=>h'.resolve_left fun e=>h e.symm⟩
theorem zrb(m:Map)(a b:zf)(h:dO m.1):∀(n j k:Nat),j+n=m.1.length->n<k->GC k (j:Int) m a b=mD m a b (dT a b ((m.1.take j).map fun p=>p.1) (m.1.drop j) j)
 |n,j,0,_,hk=>by omega
 |0,j,k+1,hj,hk=>by
  unfold GC RX
  rw[zF (by omega),show m.1.drop j=[] from List.drop_eq_nil_of_le (by omega)];rfl
 |n+1,j,k+1,hj,hk=>by
  have hl:=h.len
  have aq:j<m.1.length:=by omega
  obtain⟨h1,h2⟩:=h.sz _ (List.getElem_mem aq)
  have hg:∀d,m.1.getD j d=m.1[j]:=fun d=>by rw[List.getD_eq_getElem?_getD,List.getElem?_eq_getElem aq];rfl
  unfold GC RX
  rw[zT (by omega),zC,zh aq,Int.toNat_natCast,hg,zkm _ _ (by rw[zj];omega),Option.bind_some,List.drop_eq_getElem_cons aq]
  simp only[dT]
  cases v1:hJ m.1[j].1 a.2.1 with
  |false=>
   have:m3 m.1[j] a b=false:=by unfold m3;rw[v1];rfl
   rw[this,if_neg (by simp)];rfl
  |true=>
   simp only[Bool.not_true,zD]
   rw[zkm _ _ (by rw[zj];omega),Option.bind_some]
   cases v2:hJ m.1[j].2.1 b.2.1 with
   |false=>
    have:m3 m.1[j] a b=false:=by unfold m3;rw[v1,v2];rfl
    rw[this,if_neg (by simp)];rfl
   |true=>
    simp only[Bool.not_true,zD]
    rw[z9x _ (by rw[zj];omega),Option.bind_some,z9x _ (by rw[zj];omega),Option.bind_some]
    cases v3:(dv m.1[j].1==dv m.1[j].2.1) with
    |false=>
     have:m3 m.1[j] a b=false:=by unfold m3;rw[v1,v2,v3];rfl
     rw[this,if_neg (by simp)];rfl
    |true=>
     have:m3 m.1[j] a b=true:=by unfold m3;rw[v1,v2,v3];rfl
     rw[this,if_pos rfl]
     simp only[Bool.not_true,zD]
     rw[zT (by omega:(0:Int)<=(j:Int)),zT (by omega:(j:Int)<=((m.1.length:Nat):Int)),zC,zC,List.drop_zero,zdq _ _ (by rw[List.length_take,zj];omega),Option.bind_some]
     have hm:=agQ m.1[j].1 (m.1.take j)
     by_cases eE:m.1[j].1∈(m.1.take j).map fun p=>p.1
     ·rw[hm.2 eE,if_pos eE];rfl
     ·rw[Gr hm eE,if_neg eE,zD,zo (by omega),zrb m a b h n (j+1) k (by omega) (by omega)]
      congr 2
      rw[List.take_add_one,List.getElem?_eq_getElem aq,List.map_append]
      rfl
def jY(x y:aN):Bool:=(!decide (x.2.1=0)&&decide (x.2.1=y.2.1))||(!decide (x.2.2.1=0)&&decide (x.2.2.1=y.2.2.1))
theorem alS(x y:aN):sg x y=some (jY x y):=by
 unfold sg VS jY
 generalize decide (x.2.1=0)=c1
 generalize decide (x.2.1=y.2.1)=c2
 generalize decide (x.2.2.1=0)=c3
 generalize decide (x.2.2.1=y.2.2.1)=c4
 cases c1<;>cases c2<;>cases c3<;>cases c4<;>rfl
def nX(a b:zf):List aN->List aN->Int->Option (Int×Int)
 |_,[],_=>none
 |prev,r::l,i=>if dp r a b=0 then(if prev.any (fun q=>jY q r)=true then some (10,i) else nX a b (prev++ [r]) l (i+1)) else some (dp r a b,i)
def zz3(o:Option (Int×Int)):Option (Sum iw Unit):=some (match o with
 |some e=> .inl (e.1,3,e.2)
 |none=> .inr ())
def Rh(m:Map)(a b:zf)(i:Int)(t:Bool):Sum (Int×Int×Int×Int×Map×zf×zf) (Int×Map×zf×zf):=bif t then .inl (10,3,i,i,m,a,b) else .inr (i,m,a,b)
theorem z154{m:Map}{j:Nat}(aq:j<m.2.1.length)(d:aN):m.2.1.getD j d=m.2.1[j]:=by
 rw[List.getD_eq_getElem?_getD,List.getElem?_eq_getElem aq];rfl
theorem zz9(m:Map)(a b:zf)(i:Nat)(hi:i<m.2.1.length)(hl:m.2.1.length<=1000000):∀(n j k:Nat),j+n=i->n<k->GF k (i:Int) (j:Int) m a b=some (Rh m a b i (((m.2.1.take i).drop j).any fun q=>jY q m.2.1[i]))
 |n,j,0,_,hk=>by omega
 |0,j,k+1,hj,hk=>by
  have:j=i:=by omega
  subst this
  unfold GF RZ
  rw[zF (by omega),List.drop_eq_nil_of_le (by rw[List.length_take];omega)];rfl
 |n+1,j,k+1,hj,hk=>by
  have aq:j<m.2.1.length:=by omega
  unfold GF RZ
  have hd:(m.2.1.take i).drop j=m.2.1[j]::(m.2.1.take i).drop (j+1):=by
   rw[List.drop_eq_getElem_cons (by rw[List.length_take];omega)]
   congr 1
   rw[List.getElem_take]
  rw[zT (by omega),zC,zh aq,zh hi,Int.toNat_natCast,Int.toNat_natCast,z154 aq,z154 hi,alS,Option.bind_some,hd,List.any_cons]
  cases jY m.2.1[j] m.2.1[i] with
  |true=>rfl
  |false=>
   rw[zD,zo (by omega)]
   dsimp only
   rw[zz9 m a b i hi hl n (j+1) k (by omega) (by omega),Bool.false_or]
theorem zkc(m:Map)(a b:zf)(h:c9 m)(ha:a.2.2.1.length<=maxLen)(hb:b.2.2.1.length<=maxLen):∀(n j k:Nat),j+n=m.2.1.length->n<k->GD k (j:Int) m a b=zz3 (nX a b (m.2.1.take j) (m.2.1.drop j) j)
 |n,j,0,_,hk=>by omega
 |0,j,k+1,hj,hk=>by
  unfold GD RY
  rw[zF (by omega),List.drop_eq_nil_of_le (by omega)];rfl
 |n+1,j,k+1,hj,hk=>by
  have hl:=h.len
  have aq:j<m.2.1.length:=by omega
  unfold GD RY
  rw[zT (by omega),zC,zh aq,Int.toNat_natCast,z154 aq,adU _ a b (h.rules _ (List.getElem_mem aq)) ha hb,Option.bind_some,List.drop_eq_getElem_cons aq]
  simp only[nX]
  by_cases z:dp m.2.1[j] a b=0
  ·rw[zT z,if_pos z]
   simp only[Bool.not_true,zD]
   have ht:=zz9 m a b j aq hl j 0 ah (by omega) (by rw[zn];omega)
   rw[show((0:Nat):Int)=(0:Int) from rfl,List.drop_zero] at ht
   rw[ht,Option.bind_some]
   cases(m.2.1.take j).any fun q=>jY q m.2.1[j] with
   |true=>rw[if_pos rfl];rfl
   |false=>
    rw[if_neg (by simp)]
    unfold Rh VA
    simp only[zD,Sum.elim_inr]
    rw[zo (by omega),zkc m a b h ha hb n (j+1) k (by omega) (by omega)]
    congr 2
    rw[List.take_add_one,List.getElem?_eq_getElem aq]
    rfl
  ·rw[zF z,if_neg z];rfl
def cZ(m:Map)(a b:zf):Int×Int×Int:=
 if(fY a).1=0 then(if(fY b).1=0 then(if 256<m.1.length then(5,2,256) else match dT a b [] m.1 0 with
  |some e=>(e.1,2,e.2)
  |none=>if 256<m.2.1.length then(5,3,256) else match nX a b [] m.2.1 0 with
   |some e=>(e.1,3,e.2)
   |none=>(0,0,0)) else(1,1,1)) else(1,1,0)
theorem zdr(m:Map)(a b:zf)(h:c9 m)(ha:a.2.2.1.length<=maxLen)(hb:b.2.2.1.length<=maxLen):qj m a b=some (cZ m a b):=by
 have h1:=h.mC.len
 have h2:=h.len
 unfold qj Vy cZ
 rw[Rn a ha,Option.bind_some]
 by_cases za:(fY a).1=0
 ·rw[zT za,if_pos za]
  simp only[Bool.not_true,zD]
  rw[Rn b hb,Option.bind_some]
  by_cases zb:(fY b).1=0
  ·rw[zT zb,if_pos zb]
   simp only[Bool.not_true,zD]
   by_cases hm:256<m.1.length
   ·rw[zT (by omega),if_pos hm];rfl
   ·rw[zF (by omega),if_neg hm,zD]
    have e1:=zrb m a b h.mC m.1.length 0 ah (by omega) (by rw[zn];omega)
    rw[show((0:Nat):Int)=(0:Int) from rfl,List.take_zero,List.drop_zero,List.map_nil] at e1
    rw[e1]
    unfold mD
    cases dT a b [] m.1 0 with
    |some e=>rfl
    |none=>
     simp only[Option.bind_some,Sum.elim_inr]
     unfold Vz
     by_cases hr:256<m.2.1.length
     ·rw[zT (by omega),if_pos hr];rfl
     ·rw[zF (by omega),if_neg hr,zD]
      have e2:=zkc m a b h ha hb m.2.1.length 0 ah (by omega) (by rw[zn];omega)
      rw[show((0:Nat):Int)=(0:Int) from rfl,List.take_zero,List.drop_zero] at e2
      dsimp only
      rw[e2]
      unfold zz3
      cases nX a b [] m.2.1 0<;>rfl
  ·rw[zF zb,if_neg zb];rfl
 ·rw[zF za,if_neg za];rfl
theorem Nl(l:List Int)(f:Int):bY (l++ [f])=bY l|||bY [f]:=by simp [bY,List.foldl_append]
theorem Nn(l:List Int)(f:Int):cj (l++ [f])=cj l|||cj [f]:=by simp [cj,List.foldl_append]
theorem MD(fs:List Int)(f:Int):(bY fs&&&bY [f]=0/\cj fs&&&cj [f]=0)↔¬(f∈fs/\gS f=true):=by
 constructor
 ·rintro⟨h1,h2⟩ ⟨h3,h4⟩
  have:=PU (bY fs) (cj fs) (bY [f]) (cj [f]) f
  rw[h1,h2,M0,vg,vg,h4] at this
  simp [h3] at this
 ·intro h
  refine Yj (QM (mQ fs)) (QM (nV fs)) (by decide) (by decide) fun n _ _=> ?_
  rw[M0,PU,vg,vg]
  by_cases e:n=f
  ·subst e
   cases hr:gS n with
   |false=>simp
   |true=>
    have:n∉fs:=fun hm=>h ⟨hm,hr⟩
    simp [this]
  ·simp [e]
theorem O4(x y:Nat):(decide (((x:Nat):Int)=0)&&(decide (((y:Nat):Int)=0)&&true))=decide (x=0/\y=0):=by
 rw[Bool.and_true,<-Bool.decide_and]
 exact decide_eq_decide.2 (by omega)
theorem zyg{s:zf}(h:hP s){no:Int}(hh:bg s no=true):gS no=true:=by
 unfold bg fA at hh
 obtain⟨x,hx⟩:=Option.isSome_iff_exists.1 hh
 have h1:=List.find?_some hx
 have h2:=List.mem_of_find?_eq_some hx
 have h3:=UH (h.2.2.2.1 x h2)
 have h4:x.1=no:=of_decide_eq_true h1
 unfold gS
 exact zT (by omega)
theorem aeB{r:aN}{a b:zf}(h:dp r a b=0):dn r a b=false:=by
 unfold dp at h
 cases hc:(decide (r.1<1)||decide ((5:Int)<r.1)) with
 |true=>rw[hc] at h;simp at h
 |false=>
  rw[hc] at h
  cases he:dn r a b with
  |false=>rfl
  |true=>rw[he] at h;simp at h
theorem alI{r:aN}{a b:zf}(ha:hP a)(hb:hP b)(h:dp r a b=0):(r.2.1≠0->gS r.2.1=true)/\(r.2.2.1≠0->gS r.2.2.1=true):=by
 have he:=aeB h
 unfold dn at he
 rw[Bool.or_eq_false_iff] at he
 refine⟨fun hz=> ?_,fun hz=> ?_⟩
 ·by_cases k:r.1=3
  ·rw[zT k,zF hz] at he;simp at he
  ·rw[zF k] at he
   exact zyg ha (by simpa using he.1)
 ·by_cases k:r.1=2
  ·rw[zT k,zF hz] at he;simp at he
  ·rw[zF k] at he
   exact zyg hb (by simpa using he.2)
def eS(l:List aN):List Int:=l.map fun q=>q.2.1
def qU(l:List aN):List Int:=l.map fun q=>q.2.2.1
theorem Ov:gS 0=false:=by decide
theorem aid(prev:List aN)(r:aN)(h1:r.2.1≠0->gS r.2.1=true)(h2:r.2.2.1≠0->gS r.2.2.1=true):
 prev.any (fun q=>jY q r)=(!decide (¬(r.2.1∈eS prev/\gS r.2.1=true))|| !decide (¬(r.2.2.1∈qU prev/\gS r.2.2.1=true))):=by
 have e:prev.any (fun q=>jY q r)=true↔((r.2.1∈eS prev/\gS r.2.1=true)\/(r.2.2.1∈qU prev/\gS r.2.2.1=true)):=by
  rw[List.any_eq_true]
  unfold jY eS qU
  simp only[List.mem_map]
  constructor
  ·rintro⟨q,hq,h⟩
   simp only[Bool.or_eq_true,Bool.and_eq_true,Bool.not_eq_true',decide_eq_false_iff_not,decide_eq_true_eq] at h
   rcases h with⟨g1,g2⟩|⟨g1,g2⟩
   ·exact .inl ⟨⟨q,hq,g2⟩,h1 (by rw[<-g2];exact g1)⟩
   ·exact .inr ⟨⟨q,hq,g2⟩,h2 (by rw[<-g2];exact g1)⟩
  ·rintro(⟨⟨q,hq,g⟩,hr⟩|⟨⟨q,hq,g⟩,hr⟩)
   ·refine⟨q,hq,?_⟩
    have:q.2.1≠0:=fun e=>by rw[<-g,e,Ov] at hr;cases hr
    rw[zF this,zT g];rfl
   ·refine⟨q,hq,?_⟩
    have:q.2.2.1≠0:=fun e=>by rw[<-g,e,Ov] at hr;cases hr
    rw[zF this,zT g];simp
 cases hb:prev.any (fun q=>jY q r) with
 |true=>
  rcases e.1 hb with h|h
  ·rw[zF (fun hn=>hn h)];rfl
  ·rw[show decide (¬(r.2.2.1∈qU prev/\gS r.2.2.1=true))=false from zF (fun hn=>hn h)];simp
 |false=>
  have hn:=fun h=>(by rw[hb] at e;exact absurd (e.2 h) (by simp):False)
  rw[zT (show¬(r.2.1∈eS prev/\gS r.2.1=true) from fun h=>hn (.inl h)),zT (show¬(r.2.2.1∈qU prev/\gS r.2.2.1=true) from fun h=>hn (.inr h))];rfl
abbrev S2:=Int×Int×Unit
def zR(l:List Int):S2:=((bY l:Int),(cj l:Int),())
theorem z175(a b:zf)(ha:a.2.2.1.length<=maxLen)(hb:b.2.2.1.length<=maxLen)(oa:hP a)(ob:hP b):∀(l:List aN) (i:Int) (prev:List aN),(∀r∈l,dZ r)->
 aU (fun i (x:aN) (s:S2×S2) K=>((ni x a b).bind fun r3=>(bif(!decide (r3=0)) then some (Sum.inl (r3,(3:Int),i)) else((uB ([x.2.1]:List Int)).bind fun r4=>((uB ([x.2.2.1]:List Int)).bind fun r5=>((rj s.1 r4).bind fun r6=>(bif(!(decide (r6.1=0)&&(decide (r6.2.1=0)&&true))) then some (Sum.inl ((10:Int),(3:Int),i)) else((rj s.2 r5).bind fun r7=>(bif(!(decide (r7.1=0)&&(decide (r7.2.1=0)&&true))) then some (Sum.inl ((10:Int),(3:Int),i)) else((sY s.1 r4).bind fun r8=>((sY s.2 r5).bind fun r9=>K (r8,r9)))))))))))) (fun _=>some (Sum.inr ())) l i (zR (eS prev),zR (qU prev))=zz3 (nX a b prev l i)
 | [],i,prev,_=>rfl
 |r::l,i,prev,h=>by
  simp only[aU,nX]
  rw[ac9 r a b (h r List.mem_cons_self) ha hb,Option.bind_some]
  by_cases z:dp r a b=0
  ·rw[zT z,if_pos z]
   simp only[Bool.not_true,zD]
   obtain⟨i1,i2⟩:=alI oa ob z
   have nC:=aid prev r i1 i2
   rw[x4 _ (by simp [zj]),Option.bind_some,x4 _ (by simp [zj]),Option.bind_some]
   unfold zR
   rw[O5 _ _ _ _ (mQ _) (nV _) (mQ _) (nV _),Option.bind_some]
   dsimp only
   rw[O4,decide_eq_decide.2 (MD (eS prev) r.2.1)]
   by_cases c1:¬(r.2.1∈eS prev/\gS r.2.1=true)
   ·rw[zT c1] at nC⊢
    simp only[Bool.not_true,zD]
    rw[O5 _ _ _ _ (mQ _) (nV _) (mQ _) (nV _),Option.bind_some]
    dsimp only
    rw[O4,decide_eq_decide.2 (MD (qU prev) r.2.2.1)]
    by_cases c2:¬(r.2.2.1∈qU prev/\gS r.2.2.1=true)
    ·rw[zT c2] at nC⊢
     rw[nC]
     simp only[Bool.not_true,zD,Bool.or_false]
     rw[if_neg (by simp),zf6 _ _ _ _ (mQ _) (nV _) (mQ _) (nV _),Option.bind_some,zf6 _ _ _ _ (mQ _) (nV _) (mQ _) (nV _),Option.bind_some]
     have:=z175 a b ha hb oa ob l (i+1) (prev++ [r]) (fun q hq=>h q (List.mem_cons_of_mem _ hq))
     rw[show eS (prev++ [r])=eS prev++ [r.2.1] by simp [eS],show qU (prev++ [r])=qU prev++ [r.2.2.1] by simp [qU]] at this
     unfold zR at this
     rw[Nl,Nn,Nl,Nn] at this
     exact this
    ·rw[zF c2] at nC⊢
     rw[nC];rfl
   ·rw[zF c1] at nC⊢
    rw[nC];rfl
  ·rw[zF z,if_neg z];rfl
theorem ada(m:Map)(a b:zf)(ha:a.2.2.1.length<=maxLen)(hb:b.2.2.1.length<=maxLen):Ir ah ([a,b]:List zf) ((List.length ([a,b]:List zf)):Int) 0 m a b=some (if(fY a).1=0 then(if(fY b).1=0 then .inr (m,a,b) else .inl (1,1,1,m,a,b)) else .inl (1,1,0,m,a,b)):=by
 obtain⟨k,hk⟩:=zS
 rw[hk]
 simp only[Ir,XS]
 have w0:∀{R:Type} (x:Option R),zd 0 ([a,b]:List zf).length x=x:=fun x=>zl (by omega) (by simp)
 have w1:∀{R:Type} (x:Option R),zd 1 ([a,b]:List zf).length x=x:=fun x=>zl (by omega) (by simp)
 have e1:zW zI (0+1)=1:=rfl
 have e2:zW zI (1+1)=2:=rfl
 have d0:decide ((0:Int)<(([a,b]:List zf).length:Int))=true:=rfl
 have d1:decide ((1:Int)<(([a,b]:List zf).length:Int))=true:=rfl
 have d2:decide ((2:Int)<(([a,b]:List zf).length:Int))=false:=rfl
 rw[d0,zC,w0,show List.getD ([a,b]:List zf) (0:Int).toNat ((0:Int),(0:Int),([]:List Spec),())=a from rfl,RA a ha,Option.bind_some]
 by_cases za:(fY a).1=0
 ·rw[zT za,if_pos za]
  simp only[Bool.not_true,zD]
  rw[e1,d1,zC,w1,show List.getD ([a,b]:List zf) (1:Int).toNat ((0:Int),(0:Int),([]:List Spec),())=b from rfl,RA b hb,Option.bind_some]
  by_cases zb:(fY b).1=0
  ·rw[zT zb,if_pos zb]
   simp only[Bool.not_true,zD]
   rw[e2,d2,zD]
  ·rw[zF zb,if_neg zb];rfl
 ·rw[zF za,if_neg za];rfl
abbrev dd:aN:=(0,0,0,bs [],[],())
theorem z85(m:Map)(a b:zf)(h:c9 m)(ha:a.2.2.1.length<=maxLen)(hb:b.2.2.1.length<=maxLen):qx m a b=some (cZ m a b):=by
 have h1:=h.mC.len
 have h2:=h.len
 unfold qx XR cZ
 dsimp only
 rw[ada m a b ha hb,Option.bind_some]
 by_cases za:(fY a).1=0
 ·rw[if_pos za,if_pos za]
  by_cases zb:(fY b).1=0
  ·rw[if_pos zb,if_pos zb]
   simp only[Sum.elim_inr]
   unfold XT
   by_cases hm:256<m.1.length
   ·rw[zT (by omega),if_pos hm];rfl
   ·rw[zF (by omega),if_neg hm,zD]
    dsimp only
    rw[ahF m a b h.mC]
    unfold mD
    cases dT a b [] m.1 0 with
    |some e=>rfl
    |none=>
     simp only[Option.bind_some,Sum.elim_inr]
     unfold XU
     by_cases hr:256<m.2.1.length
     ·rw[zT (by omega),if_pos hr];rfl
     ·rw[zF (by omega),if_neg hr,zD]
      dsimp only
      have:=b7 dd m.2.1 (by rw[zj];omega) (fun i (x:aN) (s:S2×S2) K=>((ni x a b).bind fun r3=>(bif(!decide (r3=0)) then some (Sum.inl (r3,(3:Int),i)) else((uB ([x.2.1]:List Int)).bind fun r4=>((uB ([x.2.2.1]:List Int)).bind fun r5=>((rj s.1 r4).bind fun r6=>(bif(!(decide (r6.1=0)&&(decide (r6.2.1=0)&&true))) then some (Sum.inl ((10:Int),(3:Int),i)) else((rj s.2 r5).bind fun r7=>(bif(!(decide (r7.1=0)&&(decide (r7.2.1=0)&&true))) then some (Sum.inl ((10:Int),(3:Int),i)) else((sY s.1 r4).bind fun r8=>((sY s.2 r5).bind fun r9=>K (r8,r9)))))))))))) (fun _=>some (Sum.inr ()))
       (fun k i s=>Sz k m.2.1 (m.2.1.length:Int) i a b s.1 s.2) (fun k i s=>rfl) (zR (eS []),zR (qU []))
      have h3:=z175 a b ha hb ((xq a).1 za) ((xq b).1 zb) m.2.1 0 [] h.rules
      rw[h3] at this
      have h4:zR (eS [])=((0:Int),(0:Int),()):=rfl
      have h5:zR (qU [])=((0:Int),(0:Int),()):=rfl
      rw[h4,h5] at this
      rw[this]
      unfold zz3
      cases nX a b [] m.2.1 0<;>rfl
  ·rw[if_neg zb,if_neg zb];rfl
 ·rw[if_neg za,if_neg za];rfl
instance TW:DecidableEq aN:=fun x y=>decidable_of_iff ((decide (x.1=y.1)&&(decide (x.2.1=y.2.1)&&(decide (x.2.2.1=y.2.2.1)&&(decide (x.2.2.2.1=y.2.2.2.1)&&decide (x.2.2.2.2.1=y.2.2.2.2.1)))))=true) (by obtain⟨a1,a2,a3,a4,a5,u⟩:=x;obtain⟨b1,b2,b3,b4,b5,v⟩:=y;simp)
instance aaH:DecidableEq Map:=fun x y=>decidable_of_iff ((decide (x.1=y.1)&&decide (x.2.1=y.2.1))=true) (by obtain⟨a1,a2,u⟩:=x;obtain⟨b1,b2,v⟩:=y;simp)
def ug(r:aN):aN:=(r.1,r.2.2.1,r.2.1,r.2.2.2.1,kO r.2.2.2.2.1,())
def Mh(m:Map):Map:=(kO m.1,m.2.1.map ug,())
abbrev LX:Map:=([],[],())
theorem aeO(r:aN)(h:dZ r):m9 r=some r:=by
 unfold m9 Vs
 rw[z159 _ h.eJ.len];rfl
theorem MJ:∀(l:List aN) (i:Int) (s:Map×Map),(∀r∈l,dZ r)->s.2.2.1.length+l.length<=1099511627776->
 aU (fun i (x:aN) (s:Map×Map) K=>((m9 x).bind fun r2=>(bif(decide ((s.2.2.1.length+(List.length ([r2]:List aN)))*64<=140737488355328)) then K (s.1,(s.2.1,(s.2.2.1++([r2]:List aN)),())) else none))) (fun s=>some s) l i s=some (s.1,(s.2.1,s.2.2.1++l,()))
 | [],i,s,_,_=>by simp only[aU,List.append_nil]
 |r::l,i,s,h,hl=>by
  simp only[List.length_cons] at hl
  simp only[aU]
  rw[aeO r (h r List.mem_cons_self),Option.bind_some,zT (by simp;omega),zC]
  have:=MJ l (i+1) (s.1,(s.2.1,(s.2.2.1++ [r]),())) (fun q hq=>h q (List.mem_cons_of_mem _ hq)) (by simp;omega)
  refine Eq.trans this ?_
  simp
theorem Mk(m:Map)(h:c9 m):se m=some m:=by
 have hl:=h.len
 unfold se VC
 dsimp only
 rw[z159 _ h.mC.len,Option.bind_some]
 have:=b7 dd m.2.1 (by rw[zj];omega) (fun i (x:aN) (s:Map×Map) K=>((m9 x).bind fun r2=>(bif(decide ((s.2.2.1.length+(List.length ([r2]:List aN)))*64<=140737488355328)) then K (s.1,(s.2.1,(s.2.2.1++([r2]:List aN)),())) else none))) (fun s=>some s)
  (fun k i s=>R0 k i m s.1 s.2) (fun k i s=>rfl) (LX,(m.1,[],()))
 rw[MJ _ _ _ h.rules (by simp;omega)] at this
 rw[this]
 rfl
structure aqb(r:aN)(a b:zf):Prop where
 lo:¬r.1<1
 hi:¬(5:Int)<r.1
 ends:dn r a b=false
 text:iJ r=false
 kind:jQ r (aO a r.2.1) (aO b r.2.2.1)=0
theorem Uc{a b:zf}:∀{l:List bj} {seen:List ByteArray} {i:Int},dT a b seen l i=none↔(∀p∈l,m3 p a b=true)/\iV seen l i=none
 | [],seen,i=>by simp [dT,iV]
 |p::r,seen,i=>by
  simp only[dT,iV,List.mem_cons,forall_eq_or_imp]
  cases ht:m3 p a b with
  |false=>simp
  |true=>
   rw[if_pos rfl]
   by_cases hm:p.1∈seen
   ·simp [hm]
   ·rw[if_neg hm,if_neg hm,Uc]
    simp
def H7:List aN->List aN->Prop
 |_,[]=>True
 |prev,r::l=>prev.any (fun q=>jY q r)=false/\H7 (prev++ [r]) l
theorem T5{a b:zf}:∀{l:List aN} {prev:List aN} {i:Int},nX a b prev l i=none↔(∀r∈l,dp r a b=0)/\H7 prev l
 | [],prev,i=>by simp [nX,H7]
 |r::l,prev,i=>by
  simp only[nX,H7,List.mem_cons,forall_eq_or_imp]
  by_cases z:dp r a b=0
  ·rw[if_pos z]
   cases hp:prev.any (fun q=>jY q r) with
   |true=>simp
   |false=>
    rw[if_neg (by simp),T5]
    simp [z]
  ·rw[if_neg z];simp [z]
theorem zyu{a b:zf}:∀{l:List bj} {seen:List ByteArray} {i:Int} {e:Int×Int},dT a b seen l i=some e->e.1≠0
 |p::r,seen,i,e,h=>by
  simp only[dT] at h
  split at h
  ·split at h
   ·cases h;simp
   ·exact zyu h
  ·cases h;simp
theorem zrg{a b:zf}:∀{l:List aN} {prev:List aN} {i:Int} {e:Int×Int},nX a b prev l i=some e->e.1≠0
 |r::l,prev,i,e,h=>by
  simp only[nX] at h
  split at h
  ·split at h
   ·cases h;simp
   ·exact zrg h
  ·rename_i hz
   cases h;exact hz
structure dY(m:Map)(a b:zf):Prop where
 sa:(fY a).1=0
 sb:(fY b).1=0
 LV:m.1.length<=256
 typed:∀p∈m.1,m3 p a b=true
 dup:iV [] m.1 0=none
 LW:m.2.1.length<=256
 rules:∀r∈m.2.1,dp r a b=0
 uh:H7 [] m.2.1
theorem zth{m:Map}{a b:zf}:(cZ m a b).1=0↔dY m a b:=by
 constructor
 ·intro h
  unfold cZ at h
  split at h
  ·split at h
   ·rename_i h1 h2
    split at h
    ·cases h
    ·rename_i h3
     split at h
     ·rename_i e he
      exact absurd h (zyu he)
     ·rename_i hm
      split at h
      ·cases h
      ·rename_i h4
       split at h
       ·rename_i e he
        exact absurd h (zrg he)
       ·rename_i hr
        obtain⟨g1,g2⟩:=Uc.1 hm
        obtain⟨g3,g4⟩:=T5.1 hr
        exact⟨h1,h2,by omega,g1,g2,by omega,g3,g4⟩
   ·cases h
  ·cases h
 ·intro h
  unfold cZ
  have e1:=Uc.2 ⟨h.typed,h.dup⟩
  have e2:nX a b [] m.2.1 0=none:=T5.2 ⟨h.rules,h.uh⟩
  have l1:=h.LV
  have l2:=h.LW
  rw[if_pos h.sa,if_pos h.sb,if_neg (by omega),e1]
  simp only
  rw[if_neg (by omega),e2]
theorem dY.eq{m:Map}{a b:zf}(h:dY m a b):cZ m a b=(0,0,0):=by
 unfold cZ
 have e1:=Uc.2 ⟨h.typed,h.dup⟩
 have e2:nX a b [] m.2.1 0=none:=T5.2 ⟨h.rules,h.uh⟩
 have l1:=h.LV
 have l2:=h.LW
 rw[if_pos h.sa,if_pos h.sb,if_neg (by omega),e1]
 simp only
 rw[if_neg (by omega),e2]
theorem dO.turn{l:List bj}(h:dO l):dO (kO l):=⟨by rw[aib];exact h.len,fun p hp=>by
 unfold kO at hp
 obtain⟨q,hq,rfl⟩:=List.mem_map.1 hp
 exact⟨(h.sz q hq).2,(h.sz q hq).1⟩⟩
theorem c9.turn{m:Map}(h:c9 m):c9 (Mh m):=⟨h.mC.turn,by show(m.2.1.map ug).length<=_;rw[List.length_map];exact h.len,fun r hr=>by
 obtain⟨q,hq,rfl⟩:=List.mem_map.1 (show r∈m.2.1.map ug from hr)
 exact⟨(h.rules q hq).text,(h.rules q hq).eJ.turn⟩⟩
theorem alj(l:List aI)(no:Int)(t:ByteArray):(lr l no t).length=l.length+1:=by
 unfold lr
 rcases Rm no l 0 (Int.le_refl _) with⟨h1,_⟩|h1
 ·rw[h1,zT (by omega:(-1:Int)<0),zC,List.length_append];rfl
 ·rw[zF (by omega:¬bT no l 0<0),zD,List.length_append,List.length_take,List.length_cons,List.length_drop]
  omega
theorem Uq(m:bc)(no:Int)(t:ByteArray):(dq m no t).2.1.length<=m.2.1.length+1:=by
 show(lr (dF m.2.1 no) no t).length<=_
 rw[alj]
 have:=zjh m.2.1 no
 omega
theorem al4(m:Map)(t:ByteArray)(h:m.1.length<=maxLen):sX m t=some (zp m.1 t):=by
 unfold sX X4
 dsimp only
 have:=b7 iH m.1 h (fun i (x:bj) (s:Unit) K=>bif decide (x.1=t) then some (Sum.inl (x.2.1,true)) else K s) (fun _=>some (Sum.inr ()))
  (fun k i s=>SD k t m.1 (m.1.length:Int) i) (fun k i s=>rfl) ()
 rw[this,zdf]
 unfold zp
 cases m.1.find? fun p=>decide (p.1=t)<;>rfl
def dG(m:Map)(no:Int):Option aN:=m.2.1.find? fun r=>decide (r.2.1=no)
def zQ(o:Option aN):Option (Sum (Bool×aN) aN):=some (match o with
 |some r=> .inl (true,r)
 |none=> .inr dd)
theorem Oc(no:Int):∀(l:List aN) (i:Int),aU (fun i (x:aN) (s:Unit) K=>(bif(decide (x.2.1=no)) then some (Sum.inl (true,x)) else K s)) (fun _=>some (Sum.inr dd)) l i ()=zQ (l.find? fun r=>decide (r.2.1=no))
 | [],i=>rfl
 |x::r,i=>by
  rw[aU,List.find?_cons]
  cases hx:decide (x.2.1=no) with
  |true=>rfl
  |false=>rw[zD];exact Oc no r (i+1)
theorem ais(m:Map)(no:Int)(h:m.2.1.length<=maxLen):nm m no=some (match dG m no with
 |some r=>(r,true)
 |none=>(dd,false)):=by
 unfold nm X2 dG
 dsimp only
 have:=b7 dd m.2.1 h (fun i (x:aN) (s:Unit) K=>(bif(decide (x.2.1=no)) then some (Sum.inl (true,x)) else K s)) (fun _=>some (Sum.inr dd))
  (fun k i s=>SC k no m.2.1 (m.2.1.length:Int) i dd) (fun k i s=>rfl) ()
 rw[this,Oc]
 unfold zQ
 cases m.2.1.find? fun r=>decide (r.2.1=no)<;>rfl
def qX:List aN->bc->bc
 | [],out=>out
 |r::l,out=>qX l (bif decide (r.1=3) then dq out r.2.2.1 r.2.2.2.1 else out)
theorem zaz:∀(l:List aN) (out:bc),(qX l out).2.1.length<=out.2.1.length+l.length
 | [],out=>Nat.le_refl _
 |r::l,out=>by
  rw[qX,List.length_cons]
  cases decide (r.1=3) with
  |true=>rw[zC];have:=zaz l (dq out r.2.2.1 r.2.2.2.1);have:=Uq out r.2.2.1 r.2.2.2.1;omega
  |false=>rw[zD];have:=zaz l out;omega
theorem zeg{ρ:Type}(fin:bc->Option ρ):∀(l:List aN) (i:Int) (out:bc),out.2.1.length+l.length<=1000000->
 aU (fun i (x:aN) (s:bc) K=>(bif(decide (x.1=(3:Int))) then((gB s x.2.2.1 x.2.2.2.1).bind fun r4=>K r4) else K s)) fin l i out=fin (qX l out)
 | [],i,out,_=>rfl
 |r::l,i,out,h=>by
  simp only[List.length_cons] at h
  rw[aU,qX]
  cases decide (r.1=3) with
  |true=>
   rw[zC,zC,Uv out _ _ (by omega),zc]
   have:=Uq out r.2.2.1 r.2.2.2.1
   exact zeg fin l (i+1) _ (by omega)
  |false=>
   rw[zD,zD]
   exact zeg fin l (i+1) out (by omega)
def A3(m:Map)(b:zf):List aI->bc->Sum (bE×bc) bc
 | [],out=> .inr out
 |v::r,out=>match dG m v.1 with
  |none=> .inl ((9,v.1,()),out)
  |some q=>bif !decide ((zx q b v.2.1).2=0) then .inl (((zx q b v.2.1).2,v.1,()),out) else A3 m b r (bif !decide ((zx q b v.2.1).1.1=0) then dq out (zx q b v.2.1).1.1 (zx q b v.2.1).1.2.1 else out)
abbrev aX:bc:=(bs [],[],())
def N9(o:Sum (bE×bc) bc):Option (Sum (bc×bE×bc) (bc×bE×bc)):=some (match o with
 | .inl (f,out)=> .inl (aX,f,out)
 | .inr out=> .inr (aX,zu,out))
theorem H0{m:Map}{no:Int}{r:aN}(h:dG m no=some r):r∈m.2.1/\r.2.1=no:=⟨List.mem_of_find?_eq_some h,by simpa using List.find?_some h⟩
theorem zb4(m:Map)(b:zf)(hm:c9 m)(hb:b.2.2.1.length<=maxLen):∀(l:List aI) (i:Int) (out:bc),out.2.1.length+l.length<=1000000->(∀v∈l,v.2.1.size<=1099511627776)->
 aU (fun i (x:aI) (s:bc) K=>((nm m x.1).bind fun r5=>(bif(!r5.2) then some (Sum.inl (aX,((9:Int),x.1,()),s)) else((nh r5.1 b x.2.1).bind fun r6=>(bif(!(decide (r6.2=(0:Int)))) then some (Sum.inl (aX,(r6.2,x.1,()),s)) else(bif(!(decide (r6.1.1=(0:Int)))) then((gB s r6.1.1 r6.1.2.1).bind fun r7=>K r7) else K s)))))) (fun s=>some (Sum.inr (aX,zu,s))) l i out=N9 (A3 m b l out)
 | [],i,out,_,_=>rfl
 |v::r,i,out,h,ht=>by
  simp only[List.length_cons] at h
  have hl:=hm.len
  have hv:=ht v List.mem_cons_self
  rw[aU,ais m v.1 (by rw[zj];omega),zc,A3]
  cases hf:dG m v.1 with
  |none=>rfl
  |some q=>
   dsimp only
   obtain⟨q1,_⟩:=H0 hf
   have qp:=(hm.rules q q1).eJ.len
   rw[Bool.not_true,zD,ac8 q b v.2.1 (by rw[zj];omega) hb (by rw[zj];omega),zc]
   generalize zx q b v.2.1=y
   cases decide (y.2=0) with
   |false=>rfl
   |true=>
    rw[Bool.not_true,zD,zD]
    cases decide (y.1.1=0) with
    |true=>
     rw[Bool.not_true,zD,zD]
     exact zb4 m b hm hb r (i+1) out (by omega) (fun w hw=>ht w (List.mem_cons_of_mem _ hw))
    |false=>
     rw[Bool.not_false,zC,zC,Uv out _ _ (by omega),zc]
     have:=Uq out y.1.1 y.1.2.1
     exact zb4 m b hm hb r (i+1) _ (by omega) (fun w hw=>ht w (List.mem_cons_of_mem _ hw))
def nY(m:Map)(a b:zf)(x:bc):bc×bE:=
 bif !decide ((cZ m a b).1=0) then(aX,(1,-1,())) else bif !decide ((eO a x).1=0) then(aX,eO a x) else bif !(zp m.1 x.1).2 then(aX,(7,0,()))
 else match A3 m b x.2.1 (qX m.2.1 ((zp m.1 x.1).1,[],())) with
  | .inl (f,_)=>(aX,f)
  | .inr out=>(out,zu)
theorem acU(m:Map)(a b:zf)(x:bc)(hm:c9 m)(Ae:m.2.1.length<=900000)(hx:dm x)(rD:x.2.1.length<=90000)(ha:a.2.2.1.length<=maxLen)(hb:b.2.2.1.length<=maxLen):qy m a b x=some (nY m a b x):=by
 have hl:=hm.mC.len
 unfold qy XX nY
 rw[z85 m a b hm ha hb,zc]
 cases decide ((cZ m a b).1=0) with
 |false=>rfl
 |true=>
  rw[Bool.not_true,zD,zD,zra a x ha hx,zc]
  cases decide ((eO a x).1=0) with
  |false=>rfl
  |true=>
   rw[Bool.not_true,zD,zD,al4 m x.1 (by rw[zj];omega),zc]
   cases(zp m.1 x.1).2 with
   |false=>rfl
   |true=>
    rw[Bool.not_true,zD,zD]
    dsimp only
    have h1:=b7 dd m.2.1 (by rw[zj];omega) (fun i (x:aN) (s:bc) K=>(bif(decide (x.1=(3:Int))) then((gB s x.2.2.1 x.2.2.2.1).bind fun r4=>K r4) else K s)) (fun s=>some (m,b,x,aX,zu,s))
     (fun k i s=>SA k m.2.1 (m.2.1.length:Int) i m b x aX zu s) (fun k i s=>rfl) ((zp m.1 x.1).1,[],())
    rw[h1,zeg _ _ _ _ (by simp;omega),zc]
    unfold XY
    dsimp only
    have hc:=zaz m.2.1 ((zp m.1 x.1).1,[],())
    have hc:(qX m.2.1 ((zp m.1 x.1).1,[],())).2.1.length<=m.2.1.length:=by simpa using hc
    have h2:=b7 eQ x.2.1 (by rw[zj];omega) (fun i (x:aI) (s:bc) K=>((nm m x.1).bind fun r5=>(bif(!r5.2) then some (Sum.inl (aX,((9:Int),x.1,()),s)) else((nh r5.1 b x.2.1).bind fun r6=>(bif(!(decide (r6.2=(0:Int)))) then some (Sum.inl (aX,(r6.2,x.1,()),s)) else(bif(!(decide (r6.1.1=(0:Int)))) then((gB s r6.1.1 r6.1.2.1).bind fun r7=>K r7) else K s)))))) (fun s=>some (Sum.inr (aX,zu,s)))
     (fun k i s=>SB k x.2.1 (x.2.1.length:Int) i m b aX zu s) (fun k i s=>rfl) (qX m.2.1 ((zp m.1 x.1).1,[],()))
    rw[h2,zb4 m b hm hb _ _ _ (by omega) hx.mJ]
    unfold N9
    cases A3 m b x.2.1 (qX m.2.1 ((zp m.1 x.1).1,[],())) with
    |inl p=>obtain⟨f,o⟩:=p;rfl
    |inr o=>rfl
abbrev jt(l:List aI):Prop:=l.Pairwise fun x y=>x.1<y.1
def gT(no:Int)(t:ByteArray):List aI->List aI
 | []=>[(no,t,())]
 |x::r=>if no<x.1 then(no,t,())::x::r else x::gT no t r
theorem zr8(no:Int):∀(l:List aI) (i d:Int),0<=i->0<=d->bT no l (i+d)=if bT no l i<0 then-1 else bT no l i+d
 | [],i,d,_,_=>by unfold bT;rw[if_pos (by omega)]
 |x::r,i,d,hi,hd=>by
  unfold bT
  by_cases hx:no<x.1
  ·rw[if_pos hx,if_pos hx,if_neg (by omega)]
  ·rw[if_neg hx,if_neg hx,show i+d+1=(i+1)+d by omega]
   exact zr8 no r (i+1) d (by omega) hd
theorem Ye(no:Int)(t:ByteArray):∀l:List aI,lr l no t=gT no t l
 | []=>rfl
 |x::r=>by
  have ih:=Ye no t r
  unfold lr at ih⊢
  unfold gT
  by_cases hx:no<x.1
  ·have:bT no (x::r) 0=0:=by unfold bT;rw[if_pos hx]
   rw[this,if_pos hx];rfl
  ·rw[if_neg hx,<-ih]
   have h0:bT no (x::r) 0=bT no r (0+1):=by
    show(if no<x.1 then(0:Int) else bT no r (0+1))=_
    rw[if_neg hx]
   rw[h0,zr8 no r 0 1 (by omega) (by omega)]
   rcases Rm no r 0 (Int.le_refl _) with⟨h1,_⟩|h1
   ·rw[h1,if_pos (by omega)];rfl
   ·rw[if_neg (by omega),zF (by omega:¬bT no r 0+1<0),zF (by omega:¬bT no r 0<0),zD,zD]
    have:(bT no r 0+1).toNat=(bT no r 0).toNat+1:=by omega
    rw[this];rfl
theorem ztf(no:Int)(t:ByteArray)(v:aI):∀l:List aI,v∈gT no t l↔v=(no,t,())\/v∈l
 | []=>by simp [gT]
 |x::r=>by
  unfold gT
  split
  ·simp
  ·rw[List.mem_cons,ztf no t v r,List.mem_cons]
   constructor
   ·rintro(h|h|h)
    ·exact .inr (.inl h)
    ·exact .inl h
    ·exact .inr (.inr h)
   ·rintro(h|h|h)
    ·exact .inr (.inl h)
    ·exact .inl h
    ·exact .inr (.inr h)
theorem Oy(no:Int)(t:ByteArray):∀{l:List aI},jt l->(∀x∈l,x.1≠no)->jt (gT no t l)
 | [],_,_=>by simp [gT,jt]
 |x::r,h,hn=>by
  have hx:=hn x List.mem_cons_self
  rw[jt,List.pairwise_cons] at h
  unfold gT
  split
  ·rename_i aq
   refine List.pairwise_cons.2 ⟨fun y hy=> ?_,List.pairwise_cons.2 h⟩
   rcases List.mem_cons.1 hy with rfl|hy
   ·exact aq
   ·have:=h.1 y hy
    show no<y.1
    omega
  ·rename_i aq
   refine List.pairwise_cons.2 ⟨fun y hy=> ?_,Oy no t h.2 (fun z hz=>hn z (List.mem_cons_of_mem _ hz))⟩
   rcases(ztf no t y r).1 hy with rfl|hy
   ·show x.1<no
    omega
   ·exact h.1 y hy
theorem z167{l:List aI}{no:Int}{v:aI}:v∈dF l no↔v∈l/\v.1≠no:=by
 unfold dF
 rw[List.mem_filter]
 simp
theorem Ur(m:bc)(no:Int)(t:ByteArray)(v:aI):v∈(dq m no t).2.1↔v=(no,t,())\/(v∈m.2.1/\v.1≠no):=by
 show v∈lr (dF m.2.1 no) no t↔_
 rw[Ye,ztf,z167]
theorem zkn{m:bc}(h:jt m.2.1)(no:Int)(t:ByteArray):jt (dq m no t).2.1:=by
 show jt (lr (dF m.2.1 no) no t)
 rw[Ye]
 exact Oy no t (h.filter _) (fun x hx=>(z167.1 hx).2)
theorem Qd:∀{l r:List aI},jt l->jt r->(∀v,v∈l↔v∈r)->l=r
 | [],[],_,_,_=>rfl
 | [],y::r,_,_,h=>by have:=(h y).2 List.mem_cons_self;cases this
 |x::l,[],_,_,h=>by have:=(h x).1 List.mem_cons_self;cases this
 |x::l,y::r,hl,hr,h=>by
  have wT:=List.pairwise_cons.1 hl
  have hr':=List.pairwise_cons.1 hr
  have e:x=y:=by
   rcases List.mem_cons.1 ((h x).1 List.mem_cons_self) with e|e
   ·exact e
   ·rcases List.mem_cons.1 ((h y).2 List.mem_cons_self) with e2|e2
    ·exact e2.symm
    ·have a1:=hr'.1 x e
     have a2:=wT.1 y e2
     omega
  subst e
  congr 1
  refine Qd wT.2 hr'.2 fun v=>⟨fun hv=> ?_,fun hv=> ?_⟩
  ·rcases List.mem_cons.1 ((h v).1 (List.mem_cons_of_mem _ hv)) with e|e
   ·subst e;have:=wT.1 _ hv;omega
   ·exact e
  ·rcases List.mem_cons.1 ((h v).2 (List.mem_cons_of_mem _ hv)) with e|e
   ·subst e;have:=hr'.1 _ hv;omega
   ·exact e
def rN:List aI->bc->bc
 | [],out=>out
 |v::l,out=>rN l (dq out v.1 v.2.1)
def ji(l:List aI):Prop:=l.Pairwise fun x y=>x.1≠y.1
theorem zrd:∀(l:List aI) (out:bc),(rN l out).1=out.1
 | [],out=>rfl
 |v::l,out=>zrd l _
theorem zyz:∀(l:List aI) {out:bc},jt out.2.1->jt (rN l out).2.1
 | [],out,h=>h
 |v::l,out,h=>zyz l (zkn h v.1 v.2.1)
theorem zyy:∀(l:List aI) (out:bc),ji l->(∀v∈l,∀w∈out.2.1,v.1≠w.1)->∀v,v∈(rN l out).2.1↔v∈out.2.1\/v∈l
 | [],out,_,_,v=>by simp [rN]
 |x::l,out,ha,hd,v=>by
  have Lb:=List.pairwise_cons.1 ha
  have hx:(x.1,x.2.1,())=x:=rfl
  rw[rN,zyy l _ Lb.2 (fun y hy w hw=> ?_) v,Ur,hx,List.mem_cons]
  ·constructor
   ·rintro((h|h)|h)
    ·exact .inr (.inl h)
    ·exact .inl h.1
    ·exact .inr (.inr h)
   ·rintro(h|h|h)
    ·exact .inl (.inr ⟨h,fun e=>hd x List.mem_cons_self v h e.symm⟩)
    ·exact .inl (.inl h)
    ·exact .inr h
  ·rcases(Ur out x.1 x.2.1 w).1 hw with e|e
   ·rw[e];exact fun h=>Lb.1 y hy h.symm
   ·exact hd y (List.mem_cons_of_mem _ hy) w e.1
theorem zf3:∀(l r:List aI) (out:bc),rN (l++r) out=rN r (rN l out)
 | [],r,out=>rfl
 |v::l,r,out=>zf3 l r _
def gw(l:List aN):List aI:=(l.filter fun r=>decide (r.1=3)).map fun r=>(r.2.2.1,r.2.2.2.1,())
theorem zb0:∀(l:List aN) (out:bc),qX l out=rN (gw l) out
 | [],out=>rfl
 |r::l,out=>by
  rw[qX]
  unfold gw
  rw[List.filter_cons]
  cases decide (r.1=3) with
  |true=>exact zb0 l _
  |false=>exact zb0 l _
def hM(m:Map)(b:zf):List aI->Sum bE (List aI)
 | []=> .inr []
 |v::r=>match dG m v.1 with
  |none=> .inl (9,v.1,())
  |some q=>bif !decide ((zx q b v.2.1).2=0) then .inl ((zx q b v.2.1).2,v.1,()) else match hM m b r with
   | .inl f=> .inl f
   | .inr ys=> .inr ((zx q b v.2.1).1::ys)
def cf(l:List aI):List aI:=l.filter fun v=> !decide (v.1=0)
theorem zb3(m:Map)(b:zf):∀(l:List aI) (out:bc),(∃f o,A3 m b l out= .inl (f,o)/\hM m b l= .inl f)\/(∃ys,A3 m b l out= .inr (rN (cf ys) out)/\hM m b l= .inr ys)
 | [],out=> .inr ⟨[],rfl,rfl⟩
 |v::r,out=>by
  rw[A3,hM]
  cases dG m v.1 with
  |none=>exact .inl ⟨_,_,rfl,rfl⟩
  |some q=>
   dsimp only
   generalize zx q b v.2.1=y
   cases decide (y.2=0) with
   |false=>exact .inl ⟨_,_,rfl,rfl⟩
   |true=>
    rw[Bool.not_true,zD,zD]
    cases hz:decide (y.1.1=0) with
    |true=>
     rw[Bool.not_true,zD]
     rcases zb3 m b r out with⟨f,o,h1,h2⟩|⟨ys,h1,h2⟩
     ·exact .inl ⟨f,o,h1,by rw[h2]⟩
     ·refine .inr ⟨y.1::ys,?_,by rw[h2]⟩
      rw[h1]
      have:cf (y.1::ys)=cf ys:=by unfold cf;rw[List.filter_cons,hz];rfl
      rw[this]
    |false=>
     rw[Bool.not_false,zC]
     rcases zb3 m b r (dq out y.1.1 y.1.2.1) with⟨f,o,h1,h2⟩|⟨ys,h1,h2⟩
     ·exact .inl ⟨f,o,h1,by rw[h2]⟩
     ·refine .inr ⟨y.1::ys,?_,by rw[h2]⟩
      rw[h1]
      have:cf (y.1::ys)=y.1::cf ys:=by unfold cf;rw[List.filter_cons,hz];rfl
      rw[this]
      rfl
theorem Rl{m:Map}{b:zf}:∀{l ys:List aI},hM m b l= .inr ys->∀y∈ys,∃v∈l,∃q,dG m v.1=some q/\(zx q b v.2.1).2=0/\y=(zx q b v.2.1).1
 | [],ys,h,y,hy=>by cases h;cases hy
 |v::r,ys,h,y,hy=>by
  rw[hM] at h
  cases hf:dG m v.1 with
  |none=>rw[hf] at h;cases h
  |some q=>
   rw[hf] at h
   dsimp only at h
   cases hz:decide ((zx q b v.2.1).2=0) with
   |false=>rw[hz] at h;cases h
   |true=>
    rw[hz,Bool.not_true,zD] at h
    cases hr:hM m b r with
    |inl f=>rw[hr] at h;cases h
    |inr zs=>
     rw[hr] at h
     cases h
     rcases List.mem_cons.1 hy with rfl|hy
     ·exact⟨v,List.mem_cons_self,q,hf,of_decide_eq_true hz,rfl⟩
     ·obtain⟨w,hw,q',g⟩:=Rl hr y hy
      exact⟨w,List.mem_cons_of_mem _ hw,q',g⟩
theorem aeJ(x y:aN):jY x y=jY y x:=by
 unfold jY
 have e1:(!decide (x.2.1=0)&&decide (x.2.1=y.2.1))=(!decide (y.2.1=0)&&decide (y.2.1=x.2.1)):=by
  by_cases h:x.2.1=y.2.1
  ·rw[h]
  ·rw[zF h,zF (show¬y.2.1=x.2.1 from fun e=>h e.symm),Bool.and_false,Bool.and_false]
 have e2:(!decide (x.2.2.1=0)&&decide (x.2.2.1=y.2.2.1))=(!decide (y.2.2.1=0)&&decide (y.2.2.1=x.2.2.1)):=by
  by_cases h:x.2.2.1=y.2.2.1
  ·rw[h]
  ·rw[zF h,zF (show¬y.2.2.1=x.2.2.1 from fun e=>h e.symm),Bool.and_false,Bool.and_false]
 rw[e1,e2]
theorem zk4:∀{l prev:List aN},H7 prev l->l.Pairwise (fun x y=>jY x y=false)/\∀p∈prev,∀x∈l,jY p x=false
 | [],prev,h=>⟨List.Pairwise.nil,fun _ _ x hx=>by cases hx⟩
 |r::l,prev,h=>by
  obtain⟨h1,h2⟩:=h
  obtain⟨i1,i2⟩:=zk4 h2
  have hp:∀p∈prev,jY p r=false:=fun p hp=>by
   have:=List.any_eq_false.1 h1 p hp
   simpa using this
  refine⟨List.pairwise_cons.2 ⟨fun y hy=>i2 r (by simp) y hy,i1⟩,fun p hp' x hx=> ?_⟩
  rcases List.mem_cons.1 hx with rfl|hx
  ·exact hp p hp'
  ·exact i2 p (by simp [hp']) x hx
theorem zkl{x y:aN}(h:jY x y=false)(hx:x.2.2.1≠0):x.2.2.1≠y.2.2.1:=by
 intro e
 unfold jY at h
 rw[Bool.or_eq_false_iff] at h
 have:=h.2
 rw[zF hx,zT e] at this
 cases this
theorem OL{l:List aN}(h:l.Pairwise fun x y=>jY x y=false):∀x∈l,∀y∈l,x≠y->jY x y=false:=by
 induction l with
 |nil=>intro x hx;cases hx
 |cons r l ih=>
  obtain⟨h1,h2⟩:=List.pairwise_cons.1 h
  intro x hx y hy ct
  rcases List.mem_cons.1 hx with e1|hx1
  ·rcases List.mem_cons.1 hy with e2|hy1
   ·exact absurd (e1.trans e2.symm) ct
   ·rw[e1];exact h1 y hy1
  ·rcases List.mem_cons.1 hy with e2|hy1
   ·rw[aeJ,e2];exact h1 x hx1
   ·exact ih h2 x hx1 y hy1 ct
theorem AL{s:zf}:∀{l:List aI} {last:Int},p9 s l last=none↔(∀v∈l,bg s v.1=true/\bk (aO s v.1) v.2.1=0)/\jt l/\∀v∈l,last<v.1
 | [],last=>by simp [p9,jt]
 |x::r,last=>by
  rw[p9]
  by_cases h1:x.1<=last
  ·rw[zT h1,zC]
   refine⟨fun h=>(by cases h),fun h=> ?_⟩
   have:=h.2.2 x List.mem_cons_self
   omega
  rw[zF h1,zD]
  cases h2:bg s x.1 with
  |false=>
   refine⟨fun h=>(by cases h),fun h=> ?_⟩
   have:=(h.1 x List.mem_cons_self).1
   rw[h2] at this;cases this
  |true=>
   rw[Bool.not_true,zD]
   by_cases h3:bk (aO s x.1) x.2.1=0
   ·rw[zT h3,Bool.not_true,zD,AL]
    constructor
    ·rintro⟨g1,g2,g3⟩
     refine⟨fun v hv=> ?_,List.pairwise_cons.2 ⟨g3,g2⟩,fun v hv=> ?_⟩
     ·rcases List.mem_cons.1 hv with rfl|hv
      ·exact⟨h2,h3⟩
      ·exact g1 v hv
     ·rcases List.mem_cons.1 hv with rfl|hv
      ·omega
      ·have:=g3 v hv;omega
    ·rintro⟨g1,g2,g3⟩
     have g2:=List.pairwise_cons.1 g2
     exact⟨fun v hv=>g1 v (List.mem_cons_of_mem _ hv),g2.2,g2.1⟩
   ·rw[zF h3,Bool.not_false,zC]
    refine⟨fun h=>(by cases h),fun h=> ?_⟩
    exact absurd (h.1 x List.mem_cons_self).2 h3
theorem zjp{s:zf}:∀{l:List aI} {last:Int} {f:bE},p9 s l last=some f->f.1≠0
 | [],last,f,h=>by cases h
 |x::r,last,f,h=>by
  rw[p9] at h
  cases h1:decide (x.1<=last) with
  |true=>rw[h1] at h;cases h;exact(by decide:(11:Int)≠0)
  |false=>
   rw[h1,zD] at h
   cases h2:bg s x.1 with
   |false=>rw[h2] at h;cases h;exact(by decide:(9:Int)≠0)
   |true=>
    rw[h2,Bool.not_true,zD] at h
    by_cases h3:bk (aO s x.1) x.2.1=0
    ·rw[zT h3,Bool.not_true,zD] at h
     exact zjp h
    ·rw[zF h3,Bool.not_false,zC] at h
     cases h
     exact h3
structure iM(s:zf)(m:bc):Prop where
 fJ:(fY s).1=0
 right:zy m.1=true
 ver:dD m.1=s.2.1
 ic:p9 s m.2.1 0=none
theorem RH{s:zf}{m:bc}:(eO s m).1=0↔iM s m:=by
 unfold eO
 by_cases h1:(fY s).1=0
 ·rw[zT h1,Bool.not_true,zD]
  cases h2:zy m.1 with
  |false=>exact⟨fun h=>absurd h (show¬(7:Int)=0 by decide),fun h=>by have:=h.right;rw[h2] at this;cases this⟩
  |true=>
   rw[Bool.not_true,zD]
   by_cases h3:dD m.1=s.2.1
   ·rw[zT h3,Bool.not_true,zD]
    cases h4:p9 s m.2.1 0 with
    |none=>exact⟨fun _=>⟨h1,h2,h3,h4⟩,fun _=>rfl⟩
    |some f=>exact⟨fun h=>absurd h (zjp h4),fun h=>by have:=h.ic;rw[h4] at this;cases this⟩
   ·rw[zF h3]
    exact⟨fun h=>absurd h (show¬(7:Int)=0 by decide),fun h=>absurd h.ver h3⟩
 ·rw[zF h1]
  exact⟨fun h=>absurd h (show¬(1:Int)=0 by decide),fun h=>absurd h.fJ h1⟩
theorem iM.eq{s:zf}{m:bc}(h:iM s m):eO s m=zu:=by
 unfold eO
 rw[zT h.fJ,h.right,zT h.ver,h.ic];rfl
theorem Gm{s:zf}(h:hP s){no:Int}(hh:bg s no=true):2<=no/\no<=128:=by
 have:=(zrh (Up h hh)).1
 rw[(UD hh).2] at this
 exact this
theorem Rt{q:aN}{b:zf}{t:ByteArray}(h:(zx q b t).2=0)(hz:(zx q b t).1.1≠0):q.1≠2/\(zx q b t).1.1=q.2.2.1:=by
 unfold zx at h hz⊢
 by_cases k1:q.1=1
 ·rw[zT k1,zC];exact⟨by omega,rfl⟩
 rw[zF k1,zD] at h hz⊢
 by_cases k2:q.1=2
 ·rw[zT k2,zC] at hz;exact absurd rfl hz
 rw[zF k2,zD] at h hz⊢
 refine⟨k2,?_⟩
 by_cases k3:q.1=3
 ·rw[zT k3,zC]
 rw[zF k3,zD] at h hz⊢
 by_cases k4:q.1=4
 ·rw[zT k4,zC] at h hz⊢
  cases hs:bg b q.2.2.1 with
  |false=>rw[hs] at h;cases h
  |true=>
   rw[hs] at h
   rw[Bool.not_true,zD] at h⊢
   cases hp:(eI t (aO b q.2.2.1).2.2.2.1).2 with
   |false=>rw[hp] at h;cases h
   |true=>rfl
 rw[zF k4,zD] at h hz⊢
 by_cases k5:q.1=5
 ·rw[zT k5,zC] at h hz⊢
  cases hp:(zp q.2.2.2.2.1 t).2 with
  |false=>rw[hp] at h;cases h
  |true=>rfl
 ·rw[zF k5,zD] at hz;exact absurd rfl hz
theorem H2{l:List aI}{v:aI}:v∈cf l↔v∈l/\v.1≠0:=by
 unfold cf
 rw[List.mem_filter]
 simp
section
variable {m:Map} {a b:zf}
theorem dY.eJ(h:dY m a b):m.2.1.Pairwise fun x y=>jY x y=false:=(zk4 h.uh).1
theorem dY.okA(h:dY m a b):hP a:=(xq a).1 h.sa
theorem dY.okB(h:dY m a b):hP b:=(xq b).1 h.sb
theorem dY.to(h:dY m a b){r:aN}(hr:r∈m.2.1)(k:r.1≠2):bg b r.2.2.1=true:=(zjm (Ue (h.rules r hr)).2.1).2.2.2 k
theorem dY.TX(h:dY m a b){r:aN}(hr:r∈m.2.1)(k:r.1≠2):r.2.2.1≠0:=by
 have:=Gm h.okB (h.to hr k)
 omega
theorem O2(h:dY m a b):∀{l ys:List aI},jt l->hM m b l= .inr ys->ji (cf ys)
 | [],ys,_,hy=>by cases hy;exact List.Pairwise.nil
 |v::r,ys,hr,hy=>by
  rw[hM] at hy
  have hr:=List.pairwise_cons.1 hr
  cases hf:dG m v.1 with
  |none=>rw[hf] at hy;cases hy
  |some q=>
   rw[hf] at hy
   dsimp only at hy
   cases hz:decide ((zx q b v.2.1).2=0) with
   |false=>rw[hz] at hy;cases hy
   |true=>
    rw[hz,Bool.not_true,zD] at hy
    cases hv:hM m b r with
    |inl f=>rw[hv] at hy;cases hy
    |inr zs=>
     rw[hv] at hy
     cases hy
     have ih:=O2 h hr.2 hv
     unfold cf at ih⊢
     rw[List.filter_cons]
     split
     ·rename_i hnz
      have hnz:(zx q b v.2.1).1.1≠0:=by simpa using hnz
      refine List.pairwise_cons.2 ⟨fun z hzm=> ?_,ih⟩
      obtain⟨z1,z2⟩:=H2.1 hzm
      obtain⟨w,hw,q',hf',h0',rfl⟩:=Rl hv z z1
      obtain⟨a1,a2⟩:=Rt (of_decide_eq_true hz) hnz
      obtain⟨b1,b2⟩:=Rt h0' z2
      rw[a2,b2]
      obtain⟨qm,qf⟩:=H0 hf
      obtain⟨qm',qf'⟩:=H0 hf'
      have aq:=hr.1 w hw
      have ct:q≠q':=fun e=>by subst e;omega
      exact zkl (OL h.eJ q qm q' qm' ct) (h.TX qm a1)
     ·exact ih
theorem Ua{l:List aN}{v:aI}:v∈gw l↔∃r∈l,r.1=3/\v=(r.2.2.1,r.2.2.2.1,()):=by
 unfold gw
 rw[List.mem_map]
 constructor
 ·rintro⟨r,hr,rfl⟩
  rw[List.mem_filter] at hr
  exact⟨r,hr.1,of_decide_eq_true hr.2,rfl⟩
 ·rintro⟨r,hr,k,rfl⟩
  exact⟨r,List.mem_filter.2 ⟨hr,zT k⟩,rfl⟩
theorem acY(h:dY m a b):ji (gw m.2.1):=by
 unfold gw
 refine List.pairwise_map.2 ?_
 refine List.Pairwise.imp_of_mem ?_ (h.eJ.filter _)
 intro x y hx hy An
 have hx:=List.mem_filter.1 hx
 have k:x.1=3:=of_decide_eq_true hx.2
 exact zkl An (h.TX hx.1 (by omega))
theorem ady(h:dY m a b){l ys:List aI}(hl:∀v∈l,bg a v.1=true)(hy:hM m b l= .inr ys):∀c∈gw m.2.1,∀y∈cf ys,c.1≠y.1:=by
 intro c hc y hym
 obtain⟨r,hr,k,rfl⟩:=Ua.1 hc
 obtain⟨y1,y2⟩:=H2.1 hym
 obtain⟨w,hw,q,hf,h0,rfl⟩:=Rl hy y y1
 obtain⟨b1,b2⟩:=Rt h0 y2
 rw[b2]
 obtain⟨qm,qf⟩:=H0 hf
 have hwr:=Gm h.okA (hl w hw)
 have hz:=(zjm (Ue (h.rules r hr)).2.1).1 k
 have ct:r≠q:=fun e=>by subst e;omega
 exact zkl (OL h.eJ r hr q qm ct) (h.TX hr (by omega))
theorem Mp(h:dY m a b){l ys:List aI}(hr:jt l)(hl:∀v∈l,bg a v.1=true)(hy:hM m b l= .inr ys):ji (gw m.2.1++cf ys):=
 List.pairwise_append.2 ⟨acY h,O2 h hr hy,ady h hl hy⟩
theorem Mq(h:dY m a b){l ys:List aI}(hy:hM m b l= .inr ys):∀v∈gw m.2.1++cf ys,bg b v.1=true:=by
 intro v hv
 rcases List.mem_append.1 hv with hv|hv
 ·obtain⟨r,hr,k,rfl⟩:=Ua.1 hv
  exact h.to hr (by omega)
 ·obtain⟨y1,y2⟩:=H2.1 hv
  obtain⟨w,hw,q,hf,h0,rfl⟩:=Rl hy v y1
  obtain⟨b1,b2⟩:=Rt h0 y2
  rw[b2]
  exact h.to (H0 hf).1 b1
end
def lG(vs:List aI):Nat->Nat->List aI
 |0,_=>[]
 |n+1,k=>(vs.filter fun v=>decide (v.1=(k:Int)))++lG vs n (k+1)
theorem T8{vs:List aI}{v:aI}:∀{n k:Nat},v∈lG vs n k↔v∈vs/\(k:Int)<=v.1/\v.1<((k+n:Nat):Int)
 |0,k=>by simp only[lG,List.not_mem_nil,false_iff];omega
 |n+1,k=>by
  rw[lG,List.mem_append,List.mem_filter,decide_eq_true_eq,T8]
  constructor
  ·rintro(⟨h1,h2⟩|⟨h1,h2,h3⟩)
   ·exact⟨h1,by omega,by omega⟩
   ·exact⟨h1,by omega,by omega⟩
  ·rintro⟨h1,h2,h3⟩
   by_cases e:v.1=(k:Int)
   ·exact .inl ⟨h1,e⟩
   ·exact .inr ⟨h1,by omega,by omega⟩
theorem zec{vs:List aI}(h:ji (cf vs)):∀(n k:Nat),1<=k->jt (lG vs n k)
 |0,k,_=>List.Pairwise.nil
 |n+1,k,hk=>by
  rw[lG]
  refine List.pairwise_append.2 ⟨?_,zec h n (k+1) (by omega),fun x hx y hy=> ?_⟩
  ·have e:(vs.filter fun v=>decide (v.1=(k:Int)))=(cf vs).filter fun v=>decide (v.1=(k:Int)):=by
    unfold cf
    rw[List.filter_filter]
    congr 1
    funext v
    by_cases hv:v.1=(k:Int)
    ·rw[zT hv,zF (by omega:¬v.1=0)];rfl
    ·rw[zF hv];rfl
   rw[e]
   refine List.Pairwise.imp_of_mem ?_ (h.filter _)
   intro x y hx hy ct
   have h1:=of_decide_eq_true (List.mem_filter.1 hx).2
   have h2:=of_decide_eq_true (List.mem_filter.1 hy).2
   omega
  ·have h1:=of_decide_eq_true (List.mem_filter.1 hx).2
   have h2:=(T8.1 hy).2.1
   omega
def I7(m:Map)(a b:zf)(x:bc):bc×bE:=
 bif !decide ((cZ m a b).1=0) then(aX,(1,-1,())) else bif !decide ((eO a x).1=0) then(aX,eO a x) else bif !(zp m.1 x.1).2 then(aX,(7,0,()))
 else match hM m b x.2.1 with
  | .inl f=>(aX,f)
  | .inr ys=>(((zp m.1 x.1).1,lG (ys++gw m.2.1) 127 2,()),zu)
theorem zkg(l r:List aI):cf (l++r)=cf l++cf r:=by unfold cf;rw[List.filter_append]
theorem zkh{m:Map}{a b:zf}(h:dY m a b):cf (gw m.2.1)=gw m.2.1:=by
 unfold cf
 refine List.filter_eq_self.2 fun v hv=> ?_
 obtain⟨r,hr,k,rfl⟩:=Ua.1 hv
 have:=h.TX hr (by omega)
 simpa using this
theorem zxs{l r:List aI}(h:ji (l++r)):ji (r++l):=by
 obtain⟨h1,h2,h3⟩:=List.pairwise_append.1 h
 exact List.pairwise_append.2 ⟨h2,h1,fun x hx y hy e=>h3 y hy x hx e.symm⟩
theorem ag4{m:Map}{a b:zf}(h:dY m a b){l ys:List aI}(hr:jt l)(hl:∀v∈l,bg a v.1=true)(hy:hM m b l= .inr ys)(t:ByteArray):
 rN (cf ys) (qX m.2.1 (t,[],()))=(t,lG (ys++gw m.2.1) 127 2,()):=by
 rw[zb0,<-zf3]
 have zY:=Mp h hr hl hy
 have hs:cf (ys++gw m.2.1)=cf ys++gw m.2.1:=by rw[zkg,zkh h]
 refine aom.2 ⟨zrd _ _,?_⟩
 refine Qd (zyz _ List.Pairwise.nil) (zec (by rw[hs];exact zxs zY) 127 2 (by omega)) fun v=> ?_
 rw[zyy _ _ zY (fun _ _ w hw=>by cases hw) v,T8]
 constructor
 ·rintro(hv|hv)
  ·cases hv
  ·have hb:=Gm h.okB (Mq h hy v hv)
   refine⟨?_,by omega,by omega⟩
   rcases List.mem_append.1 hv with hv|hv
   ·exact List.mem_append_right _ hv
   ·exact List.mem_append_left _ (H2.1 hv).1
 ·rintro⟨hv,h1,h2⟩
  right
  rcases List.mem_append.1 hv with hv|hv
  ·exact List.mem_append_right _ (H2.2 ⟨hv,by omega⟩)
  ·exact List.mem_append_left _ hv
theorem zez(m:Map)(a b:zf)(x:bc):nY m a b x=I7 m a b x:=by
 unfold nY I7
 by_cases h1:(cZ m a b).1=0
 ·rw[zT h1,Bool.not_true,zD,zD]
  by_cases h2:(eO a x).1=0
  ·rw[zT h2,Bool.not_true,zD,zD]
   cases(zp m.1 x.1).2 with
   |false=>rfl
   |true=>
    rw[Bool.not_true,zD,zD]
    obtain⟨g1,g2,g3⟩:=AL.1 (RH.1 h2).ic
    rcases zb3 m b x.2.1 (qX m.2.1 ((zp m.1 x.1).1,[],())) with⟨f,o,e1,e2⟩|⟨ys,e1,e2⟩
    ·rw[e1,e2]
    ·rw[e1,e2]
     dsimp only
     rw[ag4 (zth.1 h1) g2 (fun v hv=>(g1 v hv).1) e2]
  ·rw[zF h2];rfl
 ·rw[zF h1];rfl
end bF

namespace bF
open Go.IntKind renaming wrap->zW,i64->zI,u8->zU
open Go Go.Ref
abbrev Me:Ty:= .pair (.int .i64) (.pair (.int .i64) (.pair (.int .i64) (.pair (.int .i64) (.pair (.int .i64) .unit))))
abbrev aox:Ty:= .pair (.int .i64) (.pair (.int .i64) (.pair (.sl 0 Me) .unit))
abbrev AF:Ty:= .pair .str (.pair .str .unit)
abbrev Md:Ty:= .pair (.int .i64) (.pair (.int .i64) (.pair (.int .i64) (.pair .str (.pair (.sl 0 AF) .unit))))
abbrev Mc:Ty:= .pair (.sl 0 AF) (.pair (.sl 0 Md) .unit)
def small(n:Nat)(l:List bj):Bool:=l.all fun p=> !decide ((n:Int)<(p.1.size:Int))&& !decide ((n:Int)<(p.2.1.size:Int))
theorem OS{n:Nat}{l:List bj}(hn:n<=1200)(h:small n l=true):∀p∈l,p.1.size<=1099511627776/\p.2.1.size<=1099511627776:=fun p hp=>by
 have:=List.all_eq_true.1 h p hp
 simp only[Bool.and_eq_true,Bool.not_eq_true',decide_eq_false_iff_not] at this
 omega
def grR(t:Bool):Option (Sum Bool Unit):=some (bif t then .inr () else .inl true)
theorem QR:∀(l:List bj) (i:Int),aU (fun i (p:bj) (s:Unit) K=>bif(decide (1200<((p.1).size:Int))) then some (Sum.inl true) else(bif(decide (1200<((p.2.1).size:Int))) then some (Sum.inl true) else K s)) (fun _=>some (Sum.inr ())) l i ()=grR (small 1200 l)
 | [],i=>rfl
 |p::r,i=>by
  simp only[aU,small,List.all_cons]
  by_cases h1:(1200:Int)<(p.1.size:Int)
  ·rw[zT h1,zT (show((1200:Nat):Int)<(p.1.size:Int) from h1)];rfl
  ·rw[zF h1,zF (show¬((1200:Nat):Int)<(p.1.size:Int) from h1)]
   by_cases h2:(1200:Int)<(p.2.1.size:Int)
   ·rw[zT h2,zT (show((1200:Nat):Int)<(p.2.1.size:Int) from h2)];rfl
   ·rw[zF h2,zF (show¬((1200:Nat):Int)<(p.2.1.size:Int) from h2)]
    exact QR r (i+1)
def xU(r:aN):Bool:=decide ((1200:Int)<(r.2.2.2.1.size:Int))||(decide ((300:Int)<(r.2.2.2.2.1.length:Int))|| !small 1200 r.2.2.2.2.1)
theorem adX(r:aN)(h:r.2.2.2.2.1.length<=maxLen):na r=some (xU r):=by
 unfold na Vu xU
 cases decide ((1200:Int)<(r.2.2.2.1.size:Int)) with
 |true=>rfl
 |false=>
  cases decide ((300:Int)<(r.2.2.2.2.1.length:Int)) with
  |true=>rfl
  |false=>
   simp only[zD,Bool.false_or]
   have:=fH iH r.2.2.2.2.1 h (fun i (p:bj) (s:Unit) K=>bif(decide (1200<((p.1).size:Int))) then some (Sum.inl true) else(bif(decide (1200<((p.2.1).size:Int))) then some (Sum.inl true) else K s)) (fun _=>some (Sum.inr ()))
    (fun k i s=>xE k i r) (fun k i s h0 h1=>by
      show xE (k+1) i r=_
      conv=>lhs;unfold xE RW
      rw[zT h1,zC,zl h0 h1,zl h0 h1]
      rfl) (fun k s=>by
      show xE (k+1) r.2.2.2.2.1.length r=_
      conv=>lhs;unfold xE RW
      rw[zF (by omega),zD]) ()
   rw[this,QR]
   unfold grR
   cases small 1200 r.2.2.2.2.1<;>rfl
theorem ahw{r:aN}(h:xU r=false):dZ r:=by
 unfold xU at h
 simp only[Bool.or_eq_false_iff,decide_eq_false_iff_not,Bool.not_eq_false'] at h
 obtain⟨h1,h2,h3⟩:=h
 exact⟨by omega,by omega,OS (by omega) h3⟩
theorem QQ(m:Map):∀(l:List bj) (i:Int),aU (fun i (p:bj) (s:Unit) K=>bif(decide (100<((p.1).size:Int))) then some (Sum.inl (true,m)) else(bif(decide (100<((p.2.1).size:Int))) then some (Sum.inl (true,m)) else K s)) (fun _=>some (Sum.inr m)) l i ()=some (bif small 100 l then .inr m else .inl (true,m))
 | [],i=>rfl
 |p::r,i=>by
  simp only[aU,small,List.all_cons]
  by_cases h1:(100:Int)<(p.1.size:Int)
  ·rw[zT h1,zT (show((100:Nat):Int)<(p.1.size:Int) from h1)];rfl
  ·rw[zF h1,zF (show¬((100:Nat):Int)<(p.1.size:Int) from h1)]
   by_cases h2:(100:Int)<(p.2.1.size:Int)
   ·rw[zT h2,zT (show((100:Nat):Int)<(p.2.1.size:Int) from h2)];rfl
   ·rw[zF h2,zF (show¬((100:Nat):Int)<(p.2.1.size:Int) from h2)]
    exact QQ m r (i+1)
theorem QP:∀(l:List aN) (i:Int),(∀r∈l,r.2.2.2.2.1.length<=maxLen)->aU (fun i (x:aN) (s:Unit) K=>((na x).bind fun r1=>(bif r1 then some (Sum.inl true) else K s))) (fun _=>some (Sum.inr ())) l i ()=some (bif l.any xU then Sum.inl true else Sum.inr ())
 | [],i,_=>rfl
 |r::l,i,h=>by
  simp only[aU,List.any_cons]
  rw[adX r (h r List.mem_cons_self),Option.bind_some]
  cases xU r with
  |true=>rfl
  |false=>exact QP l (i+1) fun q hq=>h q (List.mem_cons_of_mem _ hq)
def Bb(m:Map):Bool:=decide ((300:Int)<(m.1.length:Int))||(decide ((300:Int)<(m.2.1.length:Int))||(!small 100 m.1||m.2.1.any xU))
theorem adY(m:Map)(h1:m.1.length<=maxLen)(h2:m.2.1.length<=maxLen)(h3:∀r∈m.2.1,r.2.2.2.2.1.length<=maxLen):kV m=some (Bb m):=by
 unfold kV VF Bb
 cases decide ((300:Int)<(m.1.length:Int)) with
 |true=>rfl
 |false=>
  cases decide ((300:Int)<(m.2.1.length:Int)) with
  |true=>rfl
  |false=>
   simp only[zD,Bool.false_or]
   have e1:=fH iH m.1 h1 (fun i (p:bj) (s:Unit) K=>bif(decide (100<((p.1).size:Int))) then some (Sum.inl (true,m)) else(bif(decide (100<((p.2.1).size:Int))) then some (Sum.inl (true,m)) else K s)) (fun _=>some (Sum.inr m))
    (fun k i s=>xF k i m) (fun k i s h0 h1=>by
      show xF (k+1) i m=_
      conv=>lhs;unfold xF R4
      rw[zT h1,zC,zl h0 h1,zl h0 h1]
      rfl) (fun k s=>by
      show xF (k+1) m.1.length m=_
      conv=>lhs;unfold xF R4
      rw[zF (by omega),zD]) ()
   rw[e1,QQ]
   cases small 100 m.1 with
   |false=>rfl
   |true=>
    simp only[zC,Option.bind_some,Sum.elim_inr,Bool.not_true,Bool.false_or]
    unfold VG
    have e2:=b7 dd m.2.1 h2 (fun i (x:aN) (s:Unit) K=>((na x).bind fun r1=>(bif r1 then some (Sum.inl true) else K s))) (fun _=>some (Sum.inr ()))
     (fun k i s=>R3 k i m) (fun k i s=>rfl) ()
    dsimp only
    rw[e2,QP _ _ h3]
    cases m.2.1.any xU<;>rfl
theorem MY{m:Map}(h:Bb m=false):c9 m:=by
 unfold Bb at h
 simp only[Bool.or_eq_false_iff,decide_eq_false_iff_not,Bool.not_eq_false'] at h
 obtain⟨h1,h2,h3,h4⟩:=h
 refine⟨⟨by omega,OS (by omega) h3⟩,by omega,fun r hr=>ahw ?_⟩
 cases hg:xU r with
 |false=>rfl
 |true=>rw[List.any_eq_true.2 ⟨r,hr,hg⟩] at h4;cases h4
theorem O1{m:Map}(h:Wf Mc m):kV m=some (Bb m):=
 adY m h.1.1 h.2.1.1 fun r hr=>(h.2.1.2 r hr).2.2.2.2.1.1
theorem adv{r:aN}{b:zf}{t:ByteArray}(ht:t.size<=1099511627776)(hr:dZ r):(zx r b t).1.2.1.size<=1099511627776:=by
 have h0:(bs []).size<=1099511627776:=by decide
 unfold zx
 cases decide (r.1=1) with
 |true=>exact ht
 |false=>
  rw[zD]
  cases decide (r.1=2) with
  |true=>exact h0
  |false=>
   rw[zD]
   cases decide (r.1=3) with
   |true=>exact hr.text
   |false=>
    rw[zD]
    cases decide (r.1=4) with
    |true=>
     rw[zC]
     cases bg b r.2.2.1 with
     |false=>exact h0
     |true=>
      rw[Bool.not_true,zD]
      cases hp:(eI t (aO b r.2.2.1).2.2.2.1).2 with
      |false=>exact h0
      |true=>
       obtain⟨p1,p2,p3,p4⟩:=Qa hp
       show(eI t (aO b r.2.2.1).2.2.2.1).1.size<=_
       omega
    |false=>
     rw[zD]
     cases decide (r.1=5) with
     |true=>
      rw[zC]
      cases hp:(zp r.2.2.2.2.1 t).2 with
      |false=>exact h0
      |true=>
       obtain⟨p,hm,_,hq⟩:=ze6 hp
       show(zp r.2.2.2.2.1 t).1.size<=_
       rw[hq]
       exact(hr.eJ.sz p hm).2
     |false=>exact h0
theorem zjq{m:Map}{b:zf}:∀{l:List aI} {f:bE},hM m b l= .inl f->f.1≠0
 | [],f,h=>by cases h
 |v::r,f,h=>by
  rw[hM] at h
  cases hf:dG m v.1 with
  |none=>rw[hf] at h;cases h;exact(by decide:(9:Int)≠0)
  |some q=>
   rw[hf] at h
   dsimp only at h
   by_cases hz:(zx q b v.2.1).2=0
   ·rw[zT hz,Bool.not_true,zD] at h
    cases hr:hM m b r with
    |inl g=>rw[hr] at h;cases h;exact zjq hr
    |inr ys=>rw[hr] at h;cases h
   ·rw[zF hz,Bool.not_false,zC] at h
    cases h;exact hz
structure bZ(m:Map)(a b:zf)(x:bc)(ys:List aI):Prop where
 map:dY m a b
 msg:iM a x
 head:(zp m.1 x.1).2=true
 uk:hM m b x.2.1= .inr ys
theorem adL(m:Map)(a b:zf)(x:bc):(∃f,f.1≠0/\nY m a b x=(aX,f))\/∃ys,bZ m a b x ys/\nY m a b x=(((zp m.1 x.1).1,lG (ys++gw m.2.1) 127 2,()),zu):=by
 rw[zez]
 unfold I7
 by_cases h1:(cZ m a b).1=0
 ·rw[zT h1,Bool.not_true,zD]
  by_cases h2:(eO a x).1=0
  ·rw[zT h2,Bool.not_true,zD]
   cases h3:(zp m.1 x.1).2 with
   |false=>exact .inl ⟨_,by decide,rfl⟩
   |true=>
    rw[Bool.not_true,zD]
    cases h4:hM m b x.2.1 with
    |inl f=>exact .inl ⟨f,zjq h4,rfl⟩
    |inr ys=>exact .inr ⟨ys,⟨zth.1 h1,RH.1 h2,h3,h4⟩,rfl⟩
  ·rw[zF h2];exact .inl ⟨_,h2,rfl⟩
 ·rw[zF h1];exact .inl ⟨_,by decide,rfl⟩
theorem bZ.eq{m:Map}{a b:zf}{x:bc}{ys:List aI}(h:bZ m a b x ys):nY m a b x=(((zp m.1 x.1).1,lG (ys++gw m.2.1) 127 2,()),zu):=by
 rw[zez]
 unfold I7
 rw[zT (zth.2 h.map),Bool.not_true,zD,zT (RH.2 h.msg),Bool.not_true,zD,h.head,h.uk]
 rfl
section
variable {m:Map} {a b:zf} {x:bc} {ys:List aI}
theorem bZ.ic(h:bZ m a b x ys):(∀v∈x.2.1,bg a v.1=true/\bk (aO a v.1) v.2.1=0)/\jt x.2.1/\∀v∈x.2.1,0<v.1:=AL.1 h.msg.ic
theorem bZ.ris(h:bZ m a b x ys):jt (lG (ys++gw m.2.1) 127 2):=by
 obtain⟨g1,g2,g3⟩:=h.ic
 refine zec ?_ 127 2 (by omega)
 rw[zkg,zkh h.map]
 exact zxs (Mp h.map g2 (fun v hv=>(g1 v hv).1) h.uk)
theorem bZ.mem(h:bZ m a b x ys)(v:aI):v∈lG (ys++gw m.2.1) 127 2↔v∈gw m.2.1\/(v∈ys/\v.1≠0):=by
 rw[T8,List.mem_append]
 have hr:=Mq h.map h.uk
 constructor
 ·rintro⟨h1|h1,h2,h3⟩
  ·exact .inr ⟨h1,by omega⟩
  ·exact .inl h1
 ·rintro(h1|⟨h1,h2⟩)
  ·have:=Gm h.map.okB (hr v (List.mem_append_left _ h1))
   exact⟨.inr h1,by omega,by omega⟩
  ·have:=Gm h.map.okB (hr v (List.mem_append_right _ (H2.2 ⟨h1,h2⟩)))
   exact⟨.inl h1,by omega,by omega⟩
theorem bZ.valid(h:bZ m a b x ys)(hm:c9 m)(hx:dm x):∀v∈lG (ys++gw m.2.1) 127 2,bg b v.1=true/\v.2.1.size<=1099511627776/\bk (aO b v.1) v.2.1=0:=by
 intro v hv
 obtain⟨g1,g2,g3⟩:=h.ic
 rcases(h.mem v).1 hv with hv|⟨hv,hz⟩
 ·obtain⟨r,hr,k,rfl⟩:=Ua.1 hv
  have hc:=(Ue (h.map.rules r hr)).2.2.2
  unfold jQ at hc
  rw[zF (by omega:¬r.1=1),zT k,zD,zC] at hc
  exact⟨h.map.to hr (by omega),(hm.rules r hr).text,hc⟩
 ·obtain⟨w,hw,q,hf,h0,rfl⟩:=Rl h.uk v hv
  obtain⟨b1,b2⟩:=Rt h0 hz
  obtain⟨qm,qf⟩:=H0 hf
  have hwt:=hx.mJ w hw
  have:=(adw (r:=q) (a:=a) (b:=b) hwt (hm.rules q qm) (h.map.rules q qm) h.map.okB (fun _=>by rw[qf];exact(g1 w hw).2)).2 h0
  obtain⟨e1,e2,e3⟩:=this.2 b1
  rw[b2]
  exact⟨e2,adv hwt (hm.rules q qm),e3⟩
theorem aii{t:ByteArray}{v:Int}(h:hJ t v=true):zy t=true/\dD t=v:=by
 unfold hJ at h
 rw[Bool.and_eq_true,decide_eq_true_eq] at h
 refine⟨h.1,?_⟩
 unfold dD
 rw[h.1];exact h.2
theorem bZ.pW(h:bZ m a b x ys):zy (zp m.1 x.1).1=true/\dD (zp m.1 x.1).1=b.2.1:=by
 obtain⟨p,hp,_,e⟩:=ze6 h.head
 have ht:=h.map.typed p hp
 unfold m3 at ht
 rw[Bool.and_eq_true,Bool.and_eq_true] at ht
 rw[e]
 exact aii ht.2.1
theorem bZ.out(h:bZ m a b x ys)(hm:c9 m)(hx:dm x):iM b ((zp m.1 x.1).1,lG (ys++gw m.2.1) 127 2,()):=by
 have hv:=h.valid hm hx
 refine⟨h.map.sb,h.pW.1,h.pW.2,AL.2 ⟨fun v hm=>⟨(hv v hm).1,(hv v hm).2.2⟩,h.ris,fun v hm=> ?_⟩⟩
 have:=Gm h.map.okB (hv v hm).1
 omega
end
theorem Fa:∀{l:List aI} {lo:Int},jt l->(∀v∈l,lo<v.1/\v.1<=128)->(l.length:Int)<=max 0 (128-lo)
 | [],lo,_,_=>by simp;omega
 |x::r,lo,h,hr=>by
  have h:=List.pairwise_cons.1 h
  have hx:=hr x List.mem_cons_self
  have:=Fa (l:=r) (lo:=x.1) h.2 (fun v hv=>⟨h.1 v hv,(hr v (List.mem_cons_of_mem _ hv)).2⟩)
  simp only[List.length_cons]
  omega
theorem bZ.ok{m:Map}{a b:zf}{x:bc}{ys:List aI}(h:bZ m a b x ys)(hm:c9 m)(hx:dm x):dm ((zp m.1 x.1).1,lG (ys++gw m.2.1) 127 2,()):=by
 have hv:=h.valid hm hx
 refine⟨?_,?_,fun v mV=>(hv v mV).2.1⟩
 ·have:=(mW.1 h.pW.1).1
  show(zp m.1 x.1).1.size<=_
  omega
 ·have:=Fa (lo:=0) h.ris (fun v mV=>by have:=Gm h.map.okB (hv v mV).1;omega)
  show(lG (ys++gw m.2.1) 127 2).length<=_
  omega
def La(m:Map)(b:zf)(v:aI):Prop:=∃q,dG m v.1=some q/\(zx q b v.2.1).2=0
theorem Ub{m:Map}{b:zf}:∀{l:List aI},(∃ys,hM m b l= .inr ys)↔∀v∈l,La m b v
 | []=>⟨fun _ v hv=>(by cases hv),fun _=>⟨[],rfl⟩⟩
 |v::r=>by
  rw[hM]
  constructor
  ·rintro⟨ys,h⟩ w hw
   cases hf:dG m v.1 with
   |none=>rw[hf] at h;cases h
   |some q=>
    rw[hf] at h
    dsimp only at h
    cases hz:decide ((zx q b v.2.1).2=0) with
    |false=>rw[hz] at h;cases h
    |true=>
     rw[hz,Bool.not_true,zD] at h
     rcases List.mem_cons.1 hw with rfl|hw
     ·exact⟨q,hf,of_decide_eq_true hz⟩
     ·cases hr:hM m b r with
      |inl g=>rw[hr] at h;cases h
      |inr zs=>exact Ub.1 ⟨zs,hr⟩ w hw
  ·intro h
   obtain⟨q,hf,hz⟩:=h v List.mem_cons_self
   obtain⟨zs,hr⟩:=Ub.2 fun w hw=>h w (List.mem_cons_of_mem _ hw)
   rw[hf,hr]
   dsimp only
   rw[zT hz]
   exact⟨_,rfl⟩
theorem bZ.part{m:Map}{a b:zf}{x:bc}{ys:List aI}(h:bZ m a b x ys){l:List aI}(hl:List.Sublist l x.2.1):∃zs,bZ m a b (x.1,l,()) zs:=by
 obtain⟨g1,g2,g3⟩:=h.ic
 obtain⟨zs,hz⟩:=Ub.2 fun v hv=>Ub.1 ⟨ys,h.uk⟩ v (hl.subset hv)
 exact⟨zs,h.map,⟨h.msg.fJ,h.msg.right,h.msg.ver,AL.2 ⟨fun v hv=>g1 v (hl.subset hv),g2.sublist hl,fun v hv=>g3 v (hl.subset hv)⟩⟩,h.head,hz⟩
end bF

namespace bF
open Go.IntKind renaming wrap->zW,i64->zI,u8->zU
open Go Go.Ref
def fT(ae:Int)(m:ByteArray):ByteArray:=if ae=1 then m else(mX m).1
def mc(s:zf):List aI->ByteArray
 | []=>bs []
 |v::r=>(rJ s.1 (aO s v.1) v.2.1).1++mc s r
def fg(m:bc):List Int:=m.2.1.map fun v=>v.1
def ib(s:zf)(m:bc):ByteArray:=fT s.1 m.1++(dc s.1 (bY (fg m)) (cj (fg m))).1++mc s m.2.1
theorem ahE(m:bc)(h:m.2.1.length<=1000000):sC m=some ((bY (fg m):Int),(cj (fg m):Int),()):=by
 unfold sC Wv
 dsimp only
 have key:∀(l:List aI) (i:Int) (p:List Int),aU (fun i (x:aI) (b:vl) K=>(ya b x.1).bind fun r1=>K r1) (fun b=>some (((0:Int),(0:Int),()),b)) l i ((bY p:Int),(cj p:Int),())=some (((0:Int),(0:Int),()),((bY (p++l.map fun v=>v.1):Int),(cj (p++l.map fun v=>v.1):Int),())):=by
  intro l
  induction l with
  |nil=>intro i p;rw[List.map_nil,List.append_nil];rfl
  |cons x r ih=>
   intro i p
   rw[aU,PL _ _ (mQ p) (nV p),zc]
   have e1:bY p|||gI x.1=bY (p++ [x.1]):=by unfold bY;rw[List.foldl_append];rfl
   have e2:cj p|||gJ x.1=cj (p++ [x.1]):=by unfold cj;rw[List.foldl_append];rfl
   rw[e1,e2]
   dsimp only
   rw[ih (i+1) (p++ [x.1]),List.map_cons,List.append_assoc];rfl
 have:=b7 eQ m.2.1 (by rw[zj];omega) (fun i (x:aI) (b:vl) K=>(ya b x.1).bind fun r1=>K r1) (fun b=>some (((0:Int),(0:Int),()),b)) (fun k i b=>Sj k m.2.1 (m.2.1.length:Int) i ((0:Int),(0:Int),()) b) (fun k i b=>rfl) ((0:Int),(0:Int),())
 rw[this]
 have k2:=key m.2.1 0 []
 rw[show bY []=0 from rfl,show cj []=0 from rfl] at k2
 rw[show((0:Nat):Int)=0 from rfl] at k2
 rw[k2];rfl
theorem ac7(m:bc)(h:m.2.1.length<=1000000):rW m=some (fg m):=by
 unfold rW U5
 dsimp only
 have key:∀(l:List aI) (i:Int) (p:List Int),p.length+l.length<=1000000->aU (fun i (x:aI) (o:List Int) K=>bif decide ((o.length+([x.1]:List Int).length)*8<=140737488355328) then K (o++ [x.1]) else none) (fun o=>some o) l i p=some (p++l.map fun v=>v.1):=by
  intro l
  induction l with
  |nil=>intro i p _;rw[List.map_nil,List.append_nil];rfl
  |cons x r ih=>
   intro i p hp
   rw[List.length_cons] at hp
   rw[aU,zT (by simp only[List.length_singleton];omega),zC]
   dsimp only
   rw[ih (i+1) (p++ [x.1]) (by rw[List.length_append,List.length_singleton];omega),List.map_cons,List.append_assoc];rfl
 have:=b7 eQ m.2.1 (by rw[zj];omega) (fun i (x:aI) (o:List Int) K=>bif decide ((o.length+([x.1]:List Int).length)*8<=140737488355328) then K (o++ [x.1]) else none) (fun o=>some o) (fun k i o=>RN k o i m) (fun k i o=>rfl) []
 rw[this,key m.2.1 0 [] (by simpa using h)]
 rfl
theorem Nw(ae:Int)(m:ByteArray):(fT ae m).size<=m.size+500:=by
 unfold fT
 split
 ·omega
 ·have:=zj1 m;omega
theorem zxw(ae:Int)(h l:Nat):(dc ae h l).1.size<=32:=by
 have hz:dx ae<=16:=by unfold dx;split<;>omega
 unfold dc
 split
 ·dsimp only
  split
  ·rw[zjl];omega
  ·rw[z31,zjl,zjl];omega
 ·exact Nat.zero_le _
theorem zj8(ae:Int)(s:Spec)(t:ByteArray):(rJ ae s t).1.size<=2*t.size+1000:=by
 unfold rJ
 split
 ·exact Nat.zero_le _
 ·split
  ·exact Nat.zero_le _
  ·dsimp only
   rw[z31]
   have:=zk6 ae s.2.2.1 t.size
   have:=zjc (b9 ae s.2.1) t
   omega
structure kr(m:bc):Prop where
 pW:m.1.size<=1000
 len:m.2.1.length<=1000
 mJ:∀v∈m.2.1,v.2.1.size<=1000
theorem kr.ok{m:bc}(h:kr m):dm m:=⟨by have:=h.pW;omega,by have:=h.len;omega,fun v hv=>by have:=h.mJ v hv;omega⟩
theorem zyt{s:zf}{m:bc}(hm:dm m)(h:iM s m):kr m:=by
 have ho:=(xq s).1 h.fJ
 obtain⟨f1,f2,f3⟩:=AL.1 h.ic
 refine⟨by have:=(mW.1 h.right).1;omega,?_,fun v hv=> ?_⟩
 ·have:=Fa (lo:=0) f2 (fun v hv=>by
   have:=UH (Up ho (f1 v hv).1)
   have e:=(UD (f1 v hv).1).2
   rw[e] at this
   exact⟨by omega,by omega⟩)
  omega
 ·obtain⟨v1,v2,v3,_,_⟩:=(H6 _ _ (hm.mJ v hv)).1 (f1 v hv).2
  have:=IC v1
  omega
theorem Fc{x o:ByteArray}(h:o.size+x.size<=140737488355328):jn x o=some (o++x):=by
 unfold jn XL TY
 rw[zT h,zC,zc]
theorem N8(s:zf)(hs:s.2.2.1.length<=maxLen)(f:bE):∀(l:List aI) (i:Int) (o:ByteArray),(∀v∈l,v.2.1.size<=1000)->o.size+3000*l.length<=100000000->
 aU (fun i (x:aI) (o:ByteArray) K=>(fb s x.1).bind fun r7=>(Bj s.1 r7.1 x.2.1).bind fun r8=>(jn r8.1 o).bind fun r9=>K r9) (fun o=>some (f,o)) l i o=some (f,o++mc s l)
 | [],i,o,_,_=>by rw[mc,E0];rfl
 |x::r,i,o,h,ho=>by
  have hx:=h x List.mem_cons_self
  have hc:=zj8 s.1 (aO s x.1) x.2.1
  rw[List.length_cons] at ho
  rw[aU,xv s _ hs,zc,ad9 _ _ _ (by omega),zc]
  dsimp only
  rw[Fc (by omega),zc]
  rw[N8 s hs f r (i+1) _ (fun v hv=>h v (List.mem_cons_of_mem _ hv)) (by rw[z31];omega),mc,ByteArray.append_assoc]
theorem alW(ae:Int)(m:ByteArray)(hm:zy m=true)(hs:ae=1\/ae=2):∃k,sW ae m=some (fT ae m,k):=by
 have h4:=(mW.1 hm).1
 unfold sW XM fT
 rw[zb7 m (by rw[zj];omega),zc,hm,Bool.not_true,zD]
 rcases hs with rfl|rfl
 ·exact⟨true,rfl⟩
 ·rw[zF (by decide),zD,zT rfl,zC,zj0 m (by rw[zj];omega),zc,if_neg (by decide)]
  exact⟨_,rfl⟩
def p7(s:zf)(m:bc):ByteArray×bE:=if(eO s m).1=0 then(ib s m,zu) else(bs [],eO s m)
theorem Mm(s:zf)(m:bc)(hs:s.2.2.1.length<=maxLen)(h:dm m):nk s m=some (p7 s m):=by
 unfold nk XK p7
 rw[zra s m hs h,zc]
 by_cases h0:(eO s m).1=0
 case neg=>rw[zF h0,if_neg h0];rfl
 have hm:=RH.1 h0
 have qN:=zyt h hm
 have ho:=(xq s).1 hm.fJ
 obtain⟨k,hk⟩:=alW s.1 m.1 hm.right ho.1
 have ht:=Nw s.1 m.1
 have hb:=zxw s.1 (bY (fg m)) (cj (fg m))
 have:=qN.pW
 have:=qN.len
 rw[zT h0,Bool.not_true,zD,if_pos h0,hk,zc,ahE m (by omega)]
 have w1:jn (fT s.1 m.1) (bs [])=some (fT s.1 m.1):=by
  rw[Fc (by show 0+_<=_;omega),Gb]
 have w2:jn (dc s.1 (bY (fg m)) (cj (fg m))).1 (fT s.1 m.1)=some (fT s.1 m.1++(dc s.1 (bY (fg m)) (cj (fg m))).1):=Fc (by omega)
 dsimp only
 rw[w1,zc,zc,akU _ _ _ (mQ _) (nV _),zc,w2,zc]
 have hl:=b7 eQ m.2.1 (by rw[zj];omega) (fun i (x:aI) (o:ByteArray) K=>(fb s x.1).bind fun r7=>(Bj s.1 r7.1 x.2.1).bind fun r8=>(jn r8.1 o).bind fun r9=>K r9) (fun o=>some (zu,o)) (fun k i o=>Sy k m.2.1 (m.2.1.length:Int) i s zu o) (fun k i o=>rfl) (fT s.1 m.1++(dc s.1 (bY (fg m)) (cj (fg m))).1)
 rw[hl,N8 s hs _ m.2.1 0 _ qN.mJ (by rw[z31];omega)]
 rfl
theorem ME(s:zf)(m:bc)(hs:s.2.2.1.length<=maxLen)(hm:iM s m)(qN:kr m):∀(l:List aI) (i:Int) (o:ByteArray),(∀v∈l,v∈m.2.1)->o.size+3000*l.length<=100000000->
 aU (fun i (x:aI) (o:ByteArray) K=>(Bu s.1 (aO s x.1) x.2.1).bind fun r5=>bif decide (o.size+r5.1.size<=9223372036854775807) then K (o++r5.1) else none) (fun o=>some o) l i o=some (o++mc s l)
 | [],i,o,_,_=>by rw[mc,E0];rfl
 |x::r,i,o,h,ho=>by
  have hx:=qN.mJ x (h x List.mem_cons_self)
  have hc:=zj8 s.1 (aO s x.1) x.2.1
  rw[List.length_cons] at ho
  rw[aU,aiE _ _ _ (by omega),zc,zT (by omega),zC]
  dsimp only
  rw[ME s m hs hm qN r (i+1) _ (fun v hv=>h v (List.mem_cons_of_mem _ hv)) (by rw[z31];omega),mc,ByteArray.append_assoc]
theorem z182(s:zf)(m:bc)(hs:s.2.2.1.length<=maxLen)(hm:iM s m)(qN:kr m):m7 s m=some (ib s m):=by
 have ho:=(xq s).1 hm.fJ
 have ht:=Nw s.1 m.1
 have hb:=zxw s.1 (bY (fg m)) (cj (fg m))
 have:=qN.pW
 have:=qN.len
 unfold m7 Vc
 have hT:rY s.1 m.1=some (fT s.1 m.1):=by
  unfold rY Vd fT
  by_cases h1:s.1=1
  ·rw[zT h1,if_pos h1];rfl
  ·rw[zF h1,if_neg h1,zD,zro _ (by rw[zj];omega)];rfl
 rw[ac7 m (by omega),zc,aiC _ _ (by unfold fg;rw[List.length_map];omega),zc,hT,zc]
 dsimp only
 rw[zT (by omega),zC]
 have hl:=fH eQ m.2.1 (by rw[zj];omega) (fun i (x:aI) (o:ByteArray) K=>(Bu s.1 (aO s x.1) x.2.1).bind fun r5=>bif decide (o.size+r5.1.size<=9223372036854775807) then K (o++r5.1) else none) (fun o=>some o) (fun k i o=>xD k o i s m) (fun k i o h0 h1=>by
  show xD (k+1) o i s m=_
  conv=>lhs;unfold xD RQ
  have hx:m.2.1.getD i.toNat eQ∈m.2.1:=by
   rw[List.getD_eq_getElem?_getD,List.getElem?_eq_getElem (by omega)]
   exact List.getElem_mem _
  obtain⟨f1,_,_⟩:=AL.1 hm.ic
  have hh:=(f1 _ hx).1
  rw[zT h1,zC,zl h0 h1,AQ s _ hs,zc]
  rcases AR s (m.2.1.getD i.toNat eQ).1 with⟨i1,i2,i3⟩|⟨i1,i2,i3,i4⟩
  ·rw[i2] at hh;cases hh
  ·rw[zl i1 i2,zl h0 h1,i4]) (fun k o=>by
  show xD (k+1) o m.2.1.length s m=_
  conv=>lhs;unfold xD RQ
  rw[zF (by omega),zD]) (fT s.1 m.1++(dc s.1 (bY (fg m)) (cj (fg m))).1)
 rw[hl,ME s m hs hm qN m.2.1 0 _ (fun v hv=>hv) (by rw[z31];omega),zc]
 rfl
end bF

set_option maxRecDepth 10000
namespace bF
open Go.IntKind renaming wrap->zW,i64->zI,u8->zU
open Go Go.Ref
def fj(ae:Int):Nat:=if ae=2 then 2 else 4
def eP(ae:Int)(b:ByteArray):ByteArray:=if ae=2 then(iL (b.extract 0 2) 4).1 else b.extract 0 4
def mK(s:zf)(b:ByteArray):Sum Int l6:=
 if b.size<fj s.1 then .inl 2 else if zy (eP s.1 b)=true/\dD (eP s.1 b)=s.2.1 then .inr (eP s.1 b,fj s.1) else .inl 7
def gM(s:zf)(b:ByteArray):List Int->Nat->List aI->List aI×bE
 | [],a,o=>(o,if a<b.size then(12,129,()) else zu)
 |no::r,a,o=>if bg s no=false then(o,(9,no,())) else if¬(mP s.1 (aO s no) b a).2.2=0 then(o,((mP s.1 (aO s no) b a).2.2,no,())) else gM s b r (mP s.1 (aO s no) b a).2.1.toNat (o++ [(no,(mP s.1 (aO s no) b a).1,())])
def tf(s:zf)(b t:ByteArray)(g:Nat×Nat×Int×Int):bc×bE:=
 if¬g.2.2.2=0 then((t,[],()),(g.2.2.2,1,())) else((t,(gM s b (elems g.1 g.2.1) g.2.2.1.toNat []).1,()),(gM s b (elems g.1 g.2.1) g.2.2.1.toNat []).2)
def wJ(s:zf)(b:ByteArray):Sum Int l6->bc×bE
 | .inl e=>(aX,(e,0,()))
 | .inr q=>tf s b q.1 (bm s.1 b q.2)
def ia(s:zf)(b:ByteArray):bc×bE:=if¬(fY s).1=0 then(aX,(1,-1,())) else wJ s b (mK s b)
def Cq:Sum Int l6->ByteArray×Int×Int
 | .inl e=>(bs [],0,e)
 | .inr q=>(q.1,(q.2:Int),0)
theorem Nx(ae:Int)(b:ByteArray):(eP ae b).size<=2000:=by
 unfold eP
 split
 ·generalize hg:iL (b.extract 0 2) 4=g
  obtain⟨t,e,i⟩:=g
  have:=Rk hg
  dsimp only;omega
 ·rw[ByteArray.size_extract];omega
theorem Ny(s:zf)(t:ByteArray)(z:Nat)(ht:t.size<=2000):((iO t).bind fun r3=>(bif(!r3.2) then some (bs [],(0:Int),(7:Int)) else(bif(!(decide (r3.1=s.2.1))) then some (bs [],(0:Int),(7:Int)) else some (t,(z:Int),(0:Int)))))=some (Cq (if zy t=true/\dD t=s.2.1 then .inr (t,z) else .inl 7)):=by
 rw[T7 t (by rw[zj];omega),zc]
 dsimp only
 cases hr:zy t with
 |false=>rfl
 |true=>
  rw[Bool.not_true,zD]
  by_cases hv:dD t=s.2.1
  ·rw[zT hv,if_pos ⟨rfl,hv⟩];rfl
  ·rw[zF hv,if_neg (fun h=>hv h.2)];rfl
theorem aih(s:zf)(b:ByteArray)(hb:b.size<=1099511627776):sR s b=some (Cq (mK s b)):=by
 have h4:Q2 4=some 2:=by have:=Rp 4 (by decide) (by decide);exact this
 have e0:((2:Int)).toNat=2:=rfl
 have e4:((4:Int)).toNat=4:=rfl
 have gP:=Nx s.1 b
 unfold sR Xu mK
 by_cases h2:s.1=2
 ·have hz:fj 2=2:=rfl
  have hT:eP 2 b=(iL (b.extract 0 2) 4).1:=rfl
  rw[h2] at gP
  simp only[h2,decide_true,zC,h4,zc,e0]
  rw[hz]
  by_cases hc:b.size<2
  ·rw[zT (by omega),if_pos hc];rfl
  ·rw[zF (by omega),zD,zT (by decide),zC,zT (by omega),zC,if_neg hc,ziz _ _ (by rw[ByteArray.size_extract];omega),zc,<-hT]
   exact Ny s (eP 2 b) 2 gP
 ·have hz:fj s.1=4:=by unfold fj;rw[if_neg h2]
  have hT:eP s.1 b=b.extract 0 4:=by unfold eP;rw[if_neg h2]
  simp only[h2,decide_false,zD,e4]
  rw[hz]
  by_cases hc:b.size<4
  ·rw[zT (by omega),if_pos hc];rfl
  ·rw[zF (by omega),zD,zT (by omega),zC,if_neg hc,<-hT]
   exact Ny s (eP s.1 b) 4 gP
theorem adI{h l:Nat}{pre r:List Int}{no:Int}(he:elems h l=pre++no::r):gV h l no=r.headD 0:=by
 have hs:=zjk h l
 rw[he] at hs
 have hp:=List.pairwise_append.1 hs
 have hq:=List.pairwise_cons.1 hp.2.1
 unfold gV
 rw[he,List.filter_append,List.filter_eq_nil_iff.2 (fun x hx=>by have:=hp.2.2 x hx no List.mem_cons_self;simp;omega),List.nil_append,List.filter_cons_of_neg (by simp),List.filter_eq_self.2 (fun x hx=>by have:=hq.1 x hx;simp;omega)]
theorem aex(h l:Nat):gV h l 0=(elems h l).headD 0:=by
 unfold gV
 rw[List.filter_eq_self.2 (fun x hx=>by have:=zjw ((Rw h l x).1 hx);simp;omega)]
theorem RE(h l:Nat):(elems h l).length<=128:=by
 unfold elems
 exact Nat.le_trans (List.length_filter_le _ _) (by rw[alA];exact Nat.le_refl _)
theorem MF{ae:Int}{s:Spec}{b:ByteArray}{a:Nat}(hb:b.size<=1099511627776)(h:(mP ae s b a).2.2=0):(((mP ae s b a).2.1.toNat:Nat):Int)=(mP ae s b a).2.1:=by
 generalize hg:mP ae s b a=g at h⊢
 obtain⟨t,z,e⟩:=g
 dsimp only at h⊢
 subst h
 have:=(zy0 hb hg).2.2.1
 omega
def tk(b:ByteArray)(e:Sum (ByteArray×Int×bc×bE×bc) (ByteArray×Int×bc×bE×bc)):Option (bc×bE):=Sum.elim (fun we=>some (we.2.2.1,we.2.2.2.1)) (fun we=>bif(decide (we.2.1<(we.1.size:Int))) then some (we.2.2.2.2,((12:Int),(129:Int),())) else some (we.2.2.2.2,zu)) e
theorem zrj(s:zf)(hs:s.2.2.1.length<=maxLen)(b t:ByteArray)(hb:b.size<=1099511627776)(h l:Nat)(hh:h<cS)(hl:l<cS):∀(r pre:List Int) (k a:Nat) (o:List aI),elems h l=pre++r->o.length<=pre.length->r.length<k->
 (GV k b (a:Int) (r.headD 0) s aX zu (t,o,()) ((h:Int),(l:Int),())).bind (tk b)=some ((t,(gM s b r a o).1,()),(gM s b r a o).2)
 |r,pre,0,a,o,_,_,hk=>by omega
 | [],pre,k+1,a,o,he,ho,hk=>by
   unfold GV Sx gM
   rw[show([]:List Int).headD 0=0 from rfl,zT (p:=(0:Int)=0) rfl,Bool.not_true,zD,zc]
   unfold tk
   rw[Sum.elim_inr]
   dsimp only
   by_cases hc:a<b.size
   ·rw[zT (by omega),if_pos hc];rfl
   ·rw[zF (by omega),if_neg hc];rfl
 |no::r,pre,k+1,a,o,he,ho,hk=>by
  have fS:no∈elems h l:=by rw[he];exact List.mem_append_right _ List.mem_cons_self
  have tF:=zjw ((Rw h l no).1 fS)
  have hlen:=RE h l
  rw[he,List.length_append,List.length_cons] at hlen
  rw[List.length_cons] at hk
  unfold GV Sx gM
  rw[show(no::r).headD 0=no from rfl,zF (by omega:¬no=0),Bool.not_false,zC,xv s _ hs,zc]
  dsimp only
  cases hf:bg s no with
  |false=>rfl
  |true=>
   rw[Bool.not_true,zD,if_neg (by decide),ad8 _ _ _ _ hb,zc]
   by_cases hz:(mP s.1 (aO s no) b a).2.2=0
   case neg=>rw[zF hz,if_pos hz];rfl
   rw[zT hz,Bool.not_true,zD,if_neg (fun h=>h hz),zT (by simp only[List.length_singleton];omega),zC,O6 h l hh hl no (by omega) (by omega),zc,adI he,<-MF hb hz]
   exact zrj s hs b t hb h l hh hl r (pre++ [no]) k _ _ (by rw[he,List.append_assoc];rfl) (by rw[List.length_append,List.length_append,List.length_singleton,List.length_singleton];omega) (by omega)
theorem NY{ae:Int}{b:ByteArray}{a:Nat}(h:(bm ae b a).2.2.2=0):(bm ae b a).1<cS/\(bm ae b a).2.1<cS/\(((bm ae b a).2.2.1.toNat:Nat):Int)=(bm ae b a).2.2.1:=by
 generalize hg:bm ae b a=g at h⊢
 obtain⟨h',l,z,e⟩:=g
 dsimp only at h⊢
 subst h
 obtain⟨_,q1,q2,q3,_⟩:=akV hg
 exact⟨by show h'<18446744073709551616;omega,q2,by omega⟩
theorem aeQ(s:zf)(b:ByteArray)(hs:s.2.2.1.length<=maxLen)(hb:b.size<=1099511627776):qw s b=some (ia s b):=by
 unfold qw Xt ia
 rw[RA s hs,zc]
 by_cases h0:(fY s).1=0
 case neg=>rw[zF h0,if_pos h0];rfl
 rw[zT h0,Bool.not_true,zD,if_neg (fun h=>h h0),aih s b hb,zc]
 cases ht:mK s b with
 |inl e=>
  have he:e≠0:=by
   unfold mK at ht
   split at ht
   ·cases ht;decide
   ·split at ht
    ·cases ht
    ·cases ht;decide
  exact I3 he
 |inr q=>
  obtain⟨t,z⟩:=q
  refine(Hs (p:=(0:Int)=0) rfl).trans ?_
  dsimp only[Cq,wJ,tf]
  rw[akT _ _ _ hb,zc]
  by_cases he:(bm s.1 b z).2.2.2=0
  case neg=>rw[if_pos he];exact I3 he
  rw[if_neg (fun h=>h he)]
  refine(Hs he).trans ?_
  obtain⟨q1,q2,q3⟩:=NY he
  dsimp only[bmR]
  rw[O6 _ _ q1 q2 0 (by decide) (by decide),zc,aex,<-q3]
  exact zrj s hs b t hb _ _ q1 q2 (elems (bm s.1 b z).1 (bm s.1 b z).2.1) [] ah _ [] rfl (Nat.le_refl _) (by have:=RE (bm s.1 b z).1 (bm s.1 b z).2.1;rw[zn];omega)
end bF

set_option maxRecDepth 10000
namespace bF
open Go.IntKind renaming wrap->zW,i64->zI,u8->zU
open Go Go.Ref
theorem zz0(s:zf)(hs:s.2.2.1.length<=maxLen)(b t:ByteArray)(hb:b.size<=1099511627776)(L:List Int)(hL:L.length<=1000):∀(n j k a:Nat) (o:List aI),j+n=L.length->o.length<=j->n<k->
 (AW k b L (a:Int) (j:Int) s aX zu (t,o,())).bind (tk b)=some ((t,(gM s b (L.drop j) a o).1,()),(gM s b (L.drop j) a o).2)
 |n,j,0,a,o,_,_,hk=>by omega
 |0,j,k+1,a,o,hj,ho,hk=>by
  unfold AW RR
  rw[zF (by omega),zD,List.drop_eq_nil_of_le (by omega),zc]
  unfold tk gM
  rw[Sum.elim_inr]
  dsimp only
  by_cases hc:a<b.size
  ·rw[zT (by omega),if_pos hc];rfl
  ·rw[zF (by omega),if_neg hc];rfl
 |n+1,j,k+1,a,o,hj,ho,hk=>by
  have aq:j<L.length:=by omega
  have hw:∀{R:Type} (z:Option R),zd (j:Int) L.length z=z:=fun z=>zh aq
  unfold AW RR
  rw[zT (by omega),zC,List.drop_eq_getElem_cons aq,gM]
  simp only[hw,Oh aq]
  rw[AQ s _ hs,zc]
  rcases AR s L[j] with⟨i1,i2,i3⟩|⟨i1,i2,i3,i4⟩
  ·rw[i1,zT (by decide),zC,if_pos i2];rfl
  ·rw[zF (by omega),zD,zl i1 i2,i4,if_neg (by rw[i3];decide),aiz _ _ _ _ hb,zc]
   by_cases hz:(mP s.1 (aO s L[j]) b a).2.2=0
   case neg=>rw[zF hz,if_pos hz];rfl
   rw[zT hz,Bool.not_true,zD,if_neg (fun h=>h hz),zT (by simp only[List.length_singleton];omega),zC,zo (by omega),<-MF hb hz]
   exact zz0 s hs b t hb L hL n (j+1) k _ _ (by omega) (by rw[List.length_append,List.length_singleton];omega) (by omega)
def Re(s:zf)(b t:ByteArray)(z:Int):Option (bc×bE):=
 (jj t).bind fun r3=>(bif(!r3) then some (aX,((7:Int),(0:Int),())) else(zd (0:Int) t.size (bif(!(decide ((zW zI ((zW zI (ze t ((0:Int)).toNat))-(48:Int)))=s.2.1))) then some (aX,((7:Int),(0:Int),())) else((vE s.1 b z).bind fun r4=>(bif(!(decide (r4.2.2=(0:Int)))) then some ((t,[],()),(r4.2.2,(1:Int),())) else(AW ah b r4.1 r4.2.1 0 s aX zu (t,[],())).bind (tk b))))))
theorem Ns(s:zf)(hs:s.2.2.1.length<=maxLen)(b t:ByteArray)(z:Nat)(hb:b.size<=1099511627776)(ht:t.size<=2000):Re s b t z=some (wJ s b (if zy t=true/\dD t=s.2.1 then .inr (t,z) else .inl 7)):=by
 unfold Re
 rw[ze1 t (by rw[zj];omega),zc]
 cases hr:zy t with
 |false=>rfl
 |true=>
  have h4:=(mW.1 hr).1
  have hd:=qa hr 0 (by decide)
  have hv:dD t=ze t 0-48:=by unfold dD;rw[hr];rfl
  have e1:zW zI (ze t 0)=ze t 0:=zi (by omega) (by omega)
  have e2:zW zI (ze t 0-48)=ze t 0-48:=zi (by omega) (by omega)
  rw[Bool.not_true,zD,h4,show(0:Int)=((0:Nat):Int) from rfl,zh (by decide),Int.toNat_natCast,e1,e2,<-hv]
  by_cases he:dD t=s.2.1
  case neg=>rw[zF he,if_neg (fun h=>he h.2)];rfl
  rw[zT he,Bool.not_true,zD,if_pos ⟨rfl,he⟩,aix _ _ _ hb,zc]
  dsimp only[wJ,tf]
  by_cases hz:(bm s.1 b z).2.2.2=0
  ·obtain⟨q1,q2,q3⟩:=NY hz
   have hg:eU (bm s.1 b z)=(elems (bm s.1 b z).1 (bm s.1 b z).2.1,(bm s.1 b z).2.2.1,0):=by
    unfold eU
    rw[if_pos hz]
   rw[hg,if_neg (fun h=>h hz)]
   refine(Hs (p:=(0:Int)=0) rfl).trans ?_
   dsimp only
   have:=zz0 s hs b t hb (elems (bm s.1 b z).1 (bm s.1 b z).2.1) (by have:=RE (bm s.1 b z).1 (bm s.1 b z).2.1;omega) (elems (bm s.1 b z).1 (bm s.1 b z).2.1).length 0 ah (bm s.1 b z).2.2.1.toNat [] (by omega) (Nat.le_refl _) (by have:=RE (bm s.1 b z).1 (bm s.1 b z).2.1;rw[zn];omega)
   rw[q3,List.drop_zero] at this
   exact this
  ·have hg:eU (bm s.1 b z)=([],0,(bm s.1 b z).2.2.2):=by
    unfold eU
    rw[if_neg hz]
   rw[hg,if_pos hz]
   exact I3 hz
theorem adh(s:zf)(b:ByteArray)(hs:s.2.2.1.length<=maxLen)(hb:b.size<=1099511627776):qg s b=some (ia s b):=by
 have gP:=Nx s.1 b
 unfold qg Ia ia
 rw[Rn s hs,zc]
 by_cases h0:(fY s).1=0
 case neg=>rw[zF h0,if_pos h0];rfl
 rw[zT h0,Bool.not_true,zD,if_neg (fun h=>h h0)]
 unfold mK
 by_cases h2:s.1=2
 ·have hz:fj s.1=2:=by unfold fj;rw[if_pos h2]
  have hT:eP s.1 b=(iL (b.extract 0 2) 4).1:=by unfold eP;rw[if_pos h2]
  rw[zT h2,zC,hz]
  by_cases hc:b.size<2
  ·rw[zT (by omega),if_pos hc];rfl
  ·rw[zF (by omega),zD,zT (by omega),zC,zC,show((2:Int)).toNat=2 from rfl,zrm _ _ (by rw[ByteArray.size_extract];omega),zc,<-hT,if_neg hc]
   exact Ns s hs b (eP s.1 b) 2 hb gP
 ·have hz:fj s.1=4:=by unfold fj;rw[if_neg h2]
  have hT:eP s.1 b=b.extract 0 4:=by unfold eP;rw[if_neg h2]
  rw[zF h2,zD,hz]
  by_cases hc:b.size<4
  ·rw[zT (by omega),if_pos hc];rfl
  ·rw[zF (by omega),zD,zT (by omega),zC,zD,show((4:Int)).toNat=4 from rfl,<-hT,if_neg hc]
   exact Ns s hs b (eP s.1 b) 4 hb gP
theorem aoo{s:zf}(h:hP s){no:Int}(hh:bg s no=true):2<=no/\no<=128:=by
 have:=UH (Up h hh)
 rw[(UD hh).2] at this
 exact this
theorem aif{s:zf}(hs:s.1=1\/s.1=2){m y:ByteArray}(hm:zy m=true):eP s.1 (fT s.1 m++y)=m/\(fT s.1 m).size=fj s.1:=by
 obtain⟨h4,hd⟩:=mW.1 hm
 have e0:∀(p:ByteArray) (k:Nat),p.size=k->(p++y).extract 0 k=p:=fun p k hk=>by
  have:=aof (bs []) p y
  rw[Gb,show(bs []).size=0 from rfl,Nat.zero_add,hk] at this
  exact this
 unfold eP fT fj
 rcases hs with hs|hs
 ·have n2:¬s.1=2:=by omega
  rw[if_neg n2,if_pos hs,if_neg n2]
  exact⟨e0 m 4 h4,h4⟩
 ·have n1:¬s.1=1:=by omega
  have hz:(mX m).1.size=2:=by rw[zaw (by omega) hd,h4]
  rw[if_pos hs,if_neg n1,if_pos hs,e0 _ 2 hz]
  have:=akP (s:=m) (by omega) hd
  rw[h4] at this
  rw[show(4:Int)=((4:Nat):Int) from rfl,this]
  exact⟨rfl,hz⟩
abbrev bf:=zf×Map×List Int×List aI×Unit
abbrev AH:aI:=(0,bs [],())
def jF(s:zf)(prev:List Int)(no:Int):Int:=bif !bg s no then 9 else bif decide (no=39) then 1 else bif decide (no∈prev) then 10 else 0
def fx(s:zf):List Int->List Int->Int->Option (Int×Int)
 |_,[],_=>none
 |prev,no::r,i=>bif decide (jF s prev no=0) then fx s (prev++ [no]) r (i+1) else some (jF s prev no,i)
def gK(a:Spec)(prev:List Int)(c:aI):Int:=bif decide (c.1<0) then 1 else bif decide (16<c.1) then 1 else bif decide (c.1∈prev) then 10 else bk a c.2.1
def ey(a:Spec):List Int->List aI->Int->Option (Int×Int)
 |_,[],_=>none
 |prev,c::r,i=>bif decide (gK a prev c=0) then ey a (prev++ [c.1]) r (i+1) else some (gK a prev c,i)
def fh(s:bf):Int×Int×Int:=
 bif !decide ((fY s.1).1=0) then(1,1,0) else bif !bg s.1 39 then(9,1,1) else match fx s.1 [] s.2.2.1 0 with
  |some e=>(e.1,2,e.2)
  |none=>match ey (aO s.1 39) [] s.2.2.2.1 0 with
   |some e=>(e.1,3,e.2)
   |none=>bif decide ((0:Int)∈s.2.2.2.1.map fun c=>c.1) then(0,0,0) else(15,3,(s.2.2.2.1.length:Int))
structure cN(s:bf):Prop where
 fJ:s.1.2.2.1.length<=maxLen
 qI:s.2.2.1.length<=1000000
 fu:s.2.2.2.1.length<=1000000
 mJ:∀c∈s.2.2.2.1,c.2.1.size<=1099511627776
theorem Oo(no:Int):∀(l:List Int) (i:Int),0<=i->∃r,aU (fun i (x:Int) (s:Unit) K=>bif decide (no=x) then some (Sum.inl i) else K s) (fun _=>some (Sum.inr ())) l i ()=some r/\(no∈l->∃j,r= .inl j/\0<=j)/\(no∉l->r= .inr ())
 | [],i,_=>⟨_,rfl,fun h=>(by cases h),fun _=>rfl⟩
 |x::l,i,h=>by
  rw[aU]
  by_cases e:no=x
  ·rw[zT e,zC]
   exact⟨_,rfl,fun _=>⟨i,rfl,h⟩,fun hn=>absurd (by rw[e];exact List.mem_cons_self) hn⟩
  ·rw[zF e,zD]
   obtain⟨r,h1,h2,h3⟩:=Oo no l (i+1) (by omega)
   exact⟨r,h1,fun hm=>h2 ((List.mem_cons.1 hm).resolve_left e),fun hn=>h3 fun hm=>hn (List.mem_cons_of_mem _ hm)⟩
theorem acH(l:List Int)(no:Int)(h:l.length<=maxLen):sP l no=some (decide (no∈l)):=by
 unfold sP Xg vv Xm
 have:=b7 (0:Int) l h (fun i (x:Int) (s:Unit) K=>bif decide (no=x) then some (Sum.inl i) else K s) (fun _=>some (Sum.inr ()))
  (fun k i s=>Sw k l no (l.length:Int) i) (fun k i s=>rfl) ()
 dsimp only
 obtain⟨r,h1,h2,h3⟩:=Oo no l 0 (Int.le_refl _)
 rw[this,h1,zc]
 by_cases hm:no∈l
 ·obtain⟨j,rfl,hj⟩:=h2 hm
  rw[zT hm]
  show some (decide (0<=j))=_
  rw[zT hj]
 ·rw[h3 hm,zF hm];rfl
theorem Ou(c:aI):∀(l:List aI) (i:Int),0<=i->∃r,aU (fun i (x:aI) (s:aI) K=>((qu x s).bind fun r1=>(bif r1.1 then some (Sum.inl (i,r1.2)) else K r1.2))) (fun s=>some (Sum.inr s)) l i c=some r/\(c.1∈l.map (fun v=>v.1)->∃j,r= .inl (j,c)/\0<=j)/\(c.1∉l.map (fun v=>v.1)->r= .inr c)
 | [],i,_=>⟨_,rfl,fun h=>(by cases h),fun _=>rfl⟩
 |x::l,i,h=>by
  rw[aU]
  unfold qu WW
  rw[zc]
  dsimp only
  rw[List.map_cons]
  by_cases e:x.1=c.1
  ·rw[zT e,zC]
   exact⟨_,rfl,fun _=>⟨i,rfl,h⟩,fun hn=>absurd (by rw[e];exact List.mem_cons_self) hn⟩
  ·rw[zF e,zD]
   obtain⟨r,h1,h2,h3⟩:=Ou c l (i+1) (by omega)
   exact⟨r,h1,fun hm=>h2 ((List.mem_cons.1 hm).resolve_left fun e2=>e e2.symm),fun hn=>h3 fun hm=>hn (List.mem_cons_of_mem _ hm)⟩
theorem acI(l:List aI)(c:aI)(h:l.length<=maxLen):sO l c=some (decide (c.1∈l.map fun v=>v.1),c):=by
 unfold sO Xf vu Xi
 have:=b7 AH l h (fun i (x:aI) (s:aI) K=>((qu x s).bind fun r1=>(bif r1.1 then some (Sum.inl (i,r1.2)) else K r1.2))) (fun s=>some (Sum.inr s))
  (fun k i s=>Su k l (l.length:Int) i s) (fun k i s=>rfl) c
 dsimp only
 obtain⟨r,h1,h2,h3⟩:=Ou c l 0 (Int.le_refl _)
 rw[this,h1,zc]
 by_cases hm:c.1∈l.map fun v=>v.1
 ·obtain⟨j,rfl,hj⟩:=h2 hm
  rw[zT hm]
  show some (decide (0<=j),c)=_
  rw[zT hj]
 ·rw[h3 hm,zF hm];rfl
theorem A4{α:Type}{l:List α}{j:Nat}(h:j<l.length)(d:α):l.getD j d=l[j]:=by rw[List.getD_eq_getElem?_getD,List.getElem?_eq_getElem h];rfl
theorem aoc(s:bf)(h:cN s){j:Nat}(hj:j<s.2.2.1.length):sL s (j:Int)=some (jF s.1 (s.2.2.1.take j) s.2.2.1[j]):=by
 have he:=h.qI
 unfold sL WX jF
 rw[zh hj,Int.toNat_natCast,A4 hj,xv s.1 _ h.fJ,zc]
 cases bg s.1 s.2.2.1[j] with
 |false=>rfl
 |true=>
  dsimp only
  rw[Bool.not_true,zD,zD]
  cases decide (s.2.2.1[j]=39) with
  |true=>rfl
  |false=>
   rw[zD,zD,zT (by omega),zC,zT (by omega),zC,List.drop_zero,acH _ _ (by rw[List.length_take,zj];omega),zc]
   cases decide (s.2.2.1[j]∈s.2.2.1.take j)<;>rfl
theorem an9(s:bf)(h:cN s)(a:Spec){j:Nat}(hj:j<s.2.2.2.1.length):sK s (j:Int) a=some (gK a ((s.2.2.2.1.take j).map fun c=>c.1) s.2.2.2.1[j]):=by
 have he:=h.fu
 have ht:=h.mJ _ (List.getElem_mem hj)
 unfold sK WV gK
 rw[zh hj,Int.toNat_natCast,A4 hj]
 cases decide (s.2.2.2.1[j].1<0) with
 |true=>rfl
 |false=>
  rw[zD,zD]
  cases decide (16<s.2.2.2.1[j].1) with
  |true=>rfl
  |false=>
   rw[zD,zD,zT (by omega),zC,zT (by omega),zC,List.drop_zero,acI _ _ (by rw[List.length_take,zj];omega),zc]
   dsimp only
   cases decide (s.2.2.2.1[j].1∈(s.2.2.2.1.take j).map fun c=>c.1) with
   |true=>rfl
   |false=>rw[zD,zD,uR _ _ ht];rfl
theorem MP(s:bf)(h:cN s)(sp:Spec):∀(n j k:Nat),j+n=s.2.2.1.length->n<k->GQ k (s.2.2.1.length:Int) (j:Int) s sp=some (match fx s.1 (s.2.2.1.take j) (s.2.2.1.drop j) j with
 |some e=> .inl (e.1,2,e.2,s,sp)
 |none=> .inr (s,sp))
 |n,j,0,_,hk=>by omega
 |0,j,k+1,hj,hk=>by
  unfold GQ So
  rw[zF (by omega),zD,List.drop_eq_nil_of_le (by omega)];rfl
 |n+1,j,k+1,hj,hk=>by
  have aq:j<s.2.2.1.length:=by omega
  have he:=h.qI
  unfold GQ So
  rw[zT (by omega),zC,aoc s h aq,zc,List.drop_eq_getElem_cons aq,fx]
  cases decide (jF s.1 (s.2.2.1.take j) s.2.2.1[j]=0) with
  |false=>rfl
  |true=>
   rw[Bool.not_true,zD,zC]
   dsimp only
   rw[zo (by omega),List.take_append_getElem aq]
   exact MP s h sp n (j+1) k (by omega) (by omega)
def kR(t:Bool):List aI->Bool
 | []=>t
 |c::r=>kR (t||decide (c.1=0)) r
theorem O3(t:Bool):∀l:List aI,kR t l=(t||decide ((0:Int)∈l.map fun c=>c.1))
 | []=>by simp [kR]
 |c::r=>by
  rw[kR,O3 _ r,List.map_cons,Bool.or_assoc]
  congr 1
  rw[<-Bool.decide_or]
  exact decide_eq_decide.2 ⟨fun h=>h.elim (fun e=>by rw[<-e];exact List.mem_cons_self) (List.mem_cons_of_mem _),fun h=>(List.mem_cons.1 h).imp (fun e=>e.symm) id⟩
theorem zjb(s:bf)(h:cN s)(a:Spec):∀(n j k:Nat) (t:Bool),j+n=s.2.2.2.1.length->n<k->∃t',GR k t s.2.2.2.1 (s.2.2.2.1.length:Int) (j:Int) s a=some (match ey a ((s.2.2.2.1.take j).map fun c=>c.1) (s.2.2.2.1.drop j) j with
 |some e=> .inl (e.1,3,e.2,t',s)
 |none=> .inr (kR t (s.2.2.2.1.drop j),s))
 |n,j,0,t,_,hk=>by omega
 |0,j,k+1,t,hj,hk=>by
  unfold GR Sp
  rw[zF (by omega),zD,List.drop_eq_nil_of_le (by omega)]
  exact⟨t,rfl⟩
 |n+1,j,k+1,t,hj,hk=>by
  have aq:j<s.2.2.2.1.length:=by omega
  have he:=h.fu
  unfold GR Sp
  rw[zT (by omega),zC,zh aq,an9 s h a aq,zc,List.drop_eq_getElem_cons aq,ey,kR]
  cases decide (gK a ((s.2.2.2.1.take j).map fun c=>c.1) s.2.2.2.1[j]=0) with
  |false=>exact⟨t,rfl⟩
  |true=>
   rw[Bool.not_true,zD,zC]
   dsimp only
   rw[zo (by omega),Int.toNat_natCast,A4 aq]
   have e:(s.2.2.2.1.take j).map (fun c=>c.1)++ [s.2.2.2.1[j].1]=(s.2.2.2.1.take (j+1)).map fun c=>c.1:=by rw[<-List.take_append_getElem aq,List.map_append];rfl
   rw[e]
   cases t with
   |true=>
    rw[zC,Bool.true_or]
    exact zjb s h a n (j+1) k true (by omega) (by omega)
   |false=>
    rw[zD,Bool.false_or]
    exact zjb s h a n (j+1) k _ (by omega) (by omega)
theorem zrf(s:bf)(h:cN s):sI s=some (fh s):=by
 have he:=h.qI
 have hc:=h.fu
 unfold sI WN fh
 rw[RA s.1 h.fJ,zc]
 cases decide ((fY s.1).1=0) with
 |false=>rfl
 |true=>
  rw[Bool.not_true,zD,zD,xv s.1 39 h.fJ,zc]
  cases bg s.1 39 with
  |false=>rfl
  |true=>
   dsimp only
   rw[Bool.not_true,zD,zD]
   have e1:=MP s h (aO s.1 39) s.2.2.1.length 0 ah (by omega) (by rw[zn];omega)
   rw[List.take_zero,List.drop_zero,show((0:Nat):Int)=0 from rfl] at e1
   rw[e1,zc]
   cases fx s.1 [] s.2.2.1 0 with
   |some e=>rfl
   |none=>
    dsimp only
    rw[Sum.elim_inr]
    unfold WO
    dsimp only
    obtain⟨t',e2⟩:=zjb s h (aO s.1 39) s.2.2.2.1.length 0 ah false (by omega) (by rw[zn];omega)
    rw[List.take_zero,List.drop_zero,show((0:Nat):Int)=0 from rfl,List.map_nil] at e2
    rw[e2,zc]
    cases ey (aO s.1 39) [] s.2.2.2.1 0 with
    |some e=>rfl
    |none=>
     dsimp only
     rw[Sum.elim_inr]
     unfold WQ
     rw[O3,Bool.false_or]
     dsimp only
     cases decide ((0:Int)∈s.2.2.2.1.map fun c=>c.1)<;>rfl
theorem zqz(l:List aI)(hl:l.length<=9223372036854775807)(m:Nat)(hm:m<=l.length)(e:Int):∀(n j k:Nat),j+n=m->n<k->∃r,vf k l (m:Int) e (j:Int)=some r/\(e∈((l.take m).drop j).map (fun v=>v.1)->∃i,r= .inl i/\0<=i)/\(e∉((l.take m).drop j).map (fun v=>v.1)->r= .inr ())
 |n,j,0,_,hk=>by omega
 |0,j,k+1,hj,hk=>by
  unfold vf GK
  rw[zF (by omega),zD,List.drop_eq_nil_of_le (by rw[List.length_take];omega)]
  exact⟨_,rfl,fun h=>(by cases h),fun _=>rfl⟩
 |n+1,j,k+1,hj,hk=>by
  have aq:j<l.length:=by omega
  have nG:j<(l.take m).length:=by rw[List.length_take];omega
  unfold vf GK
  rw[zT (by omega),zC,zh aq,Int.toNat_natCast,A4 aq,List.drop_eq_getElem_cons nG,List.map_cons,List.getElem_take]
  by_cases he:l[j].1=e
  ·rw[zT he,zC]
   exact⟨_,rfl,fun _=>⟨(j:Int),rfl,by omega⟩,fun hn=>absurd (by rw[he];exact List.mem_cons_self) hn⟩
  ·rw[zF he,zD]
   dsimp only
   rw[zo (by omega)]
   obtain⟨r,h1,h2,h3⟩:=zqz l hl m hm e n (j+1) k (by omega) (by omega)
   exact⟨r,h1,fun hm=>h2 ((List.mem_cons.1 hm).resolve_left fun e2=>he e2.symm),fun hn=>h3 fun hm=>hn (List.mem_cons_of_mem _ hm)⟩
theorem MV(l:List aI)(hl:l.length<=maxLen)(m:Nat)(hm:m<=l.length)(e:Int):∃r,ka l (m:Int) e=some r/\decide (0<=r)=decide (e∈(l.take m).map fun v=>v.1):=by
 unfold ka Se
 rw[zj] at hl
 obtain⟨r,h1,h2,h3⟩:=zqz l (by omega) m hm e m 0 ah (by omega) (by rw[zn];omega)
 rw[show((0:Nat):Int)=0 from rfl] at h1
 dsimp only
 rw[h1,zc]
 rw[List.drop_zero] at h2 h3
 by_cases eE:e∈(l.take m).map fun v=>v.1
 ·obtain⟨i,rfl,hi⟩:=h2 eE
  exact⟨i,rfl,by rw[zT hi,zT eE]⟩
 ·rw[h3 eE]
  exact⟨-1,rfl,by rw[zF eE];rfl⟩
theorem zqt(s:bf)(h:cN s)(t5:Int):∀(n j k:Nat),j+n=s.2.2.1.length->n<k->GI k t5 (j:Int) s=some (match fx s.1 (s.2.2.1.take j) (s.2.2.1.drop j) j with
 |some e=> .inl (e.1,2,e.2,t5,s)
 |none=> .inr (t5,s))
 |n,j,0,_,hk=>by omega
 |0,j,k+1,hj,hk=>by
  unfold GI Sb
  rw[zF (by omega),zD,List.drop_eq_nil_of_le (by omega)];rfl
 |n+1,j,k+1,hj,hk=>by
  have aq:j<s.2.2.1.length:=by omega
  have he:=h.qI
  have ih:=zqt s h t5 n (j+1) k (by omega) (by omega)
  have hw:∀{R:Type} (z:Option R),zd (j:Int) s.2.2.1.length z=z:=fun z=>zh aq
  unfold GI Sb
  simp only[hw]
  rw[zT (by omega),zC,Int.toNat_natCast,A4 aq,AQ s.1 _ h.fJ,zc,List.drop_eq_getElem_cons aq,fx]
  unfold jF
  rcases AR s.1 s.2.2.1[j] with⟨h1,h2,_⟩|⟨h1,_,h2,_⟩
  ·rw[h1,h2];rfl
  ·rw[h2,zF (by omega),zD,Bool.not_true,zD]
   cases decide (s.2.2.1[j]=39) with
   |true=>rfl
   |false=>
    rw[zD,zD,zT (by omega),zC,zT (by omega),zC,List.drop_zero,UK _ _ (by rw[List.length_take,zj];omega),zc]
    cases decide (s.2.2.1[j]∈s.2.2.1.take j) with
    |true=>rfl
    |false=>
     rw[zD,zD,zT rfl,zC]
     rw[zo (by omega),List.take_append_getElem aq]
     exact ih
theorem zqs(s:bf)(h:cN s)(t5:Int)(h5:0<=t5/\t5<s.1.2.2.1.length)(hs5:List.getD s.1.2.2.1 t5.toNat cQ=aO s.1 39):∀(n j k:Nat),j+n=s.2.2.2.1.length->n<k->GJ k t5 (j:Int) s=some (match ey (aO s.1 39) ((s.2.2.2.1.take j).map fun c=>c.1) (s.2.2.2.1.drop j) j with
 |some e=> .inl (e.1,3,e.2,s)
 |none=> .inr s)
 |n,j,0,_,hk=>by omega
 |0,j,k+1,hj,hk=>by
  unfold GJ Sc
  rw[zF (by omega),zD,List.drop_eq_nil_of_le (by omega)];rfl
 |n+1,j,k+1,hj,hk=>by
  have aq:j<s.2.2.2.1.length:=by omega
  have he:=h.fu
  have ih:=zqs s h t5 h5 hs5 n (j+1) k (by omega) (by omega)
  have hw:∀{R:Type} (z:Option R),zd (j:Int) s.2.2.2.1.length z=z:=fun z=>zh aq
  have hw5:∀{R:Type} (z:Option R),zd t5 s.1.2.2.1.length z=z:=fun z=>zl h5.1 h5.2
  have ht:=h.mJ _ (List.getElem_mem aq)
  obtain⟨r,f1,f2⟩:=MV s.2.2.2.1 (by rw[zj];omega) j (by omega) s.2.2.2.1[j].1
  unfold GJ Sc
  simp only[hw,hw5]
  rw[zT (by omega),zC,Int.toNat_natCast,A4 aq,f1,zc,f2,hs5,ur _ _ ht,zc,List.drop_eq_getElem_cons aq,ey]
  unfold gK
  cases decide (s.2.2.2.1[j].1<0) with
  |true=>rfl
  |false=>
   rw[zD,zD]
   cases decide (16<s.2.2.2.1[j].1) with
   |true=>rfl
   |false=>
    rw[zD,zD]
    cases decide (s.2.2.2.1[j].1∈(s.2.2.2.1.take j).map fun c=>c.1) with
    |true=>rfl
    |false=>
     rw[zD,zD]
     cases decide (bk (aO s.1 39) s.2.2.2.1[j].2.1=0) with
     |false=>rfl
     |true=>
      rw[Bool.not_true,zD,zC]
      have e:(s.2.2.2.1.take j).map (fun c=>c.1)++ [s.2.2.2.1[j].1]=(s.2.2.2.1.take (j+1)).map fun c=>c.1:=by rw[<-List.take_append_getElem aq,List.map_append];rfl
      rw[zo (by omega),e]
      exact ih
theorem ztv(s:bf)(h:cN s):sj s=some (fh s):=by
 have he:=h.qI
 have hc:=h.fu
 unfold sj VZ fh
 rw[Rn s.1 h.fJ,zc]
 cases decide ((fY s.1).1=0) with
 |false=>rfl
 |true=>
  rw[Bool.not_true,zD,zD,AQ s.1 39 h.fJ,zc]
  rcases AR s.1 39 with⟨h1,h2,_⟩|⟨h1,h1',h2,h3⟩
  ·rw[h1,h2];rfl
  ·rw[h2,zF (by omega),zD,Bool.not_true,zD]
   dsimp only
   have e1:=zqt s h (dN s.1.2.2.1 39 0) s.2.2.1.length 0 ah (by omega) (by rw[zn];omega)
   rw[List.take_zero,List.drop_zero,show((0:Nat):Int)=0 from rfl] at e1
   rw[e1,zc]
   cases fx s.1 [] s.2.2.1 0 with
   |some e=>rfl
   |none=>
    dsimp only
    rw[Sum.elim_inr]
    unfold V0
    dsimp only
    have e2:=zqs s h (dN s.1.2.2.1 39 0) ⟨h1,h1'⟩ h3 s.2.2.2.1.length 0 ah (by omega) (by rw[zn];omega)
    rw[List.take_zero,List.drop_zero,show((0:Nat):Int)=0 from rfl,List.map_nil] at e2
    rw[e2,zc]
    cases ey (aO s.1 39) [] s.2.2.2.1 0 with
    |some e=>rfl
    |none=>
     dsimp only
     rw[Sum.elim_inr]
     unfold V1
     obtain⟨r,f1,f2⟩:=MV s.2.2.2.1 (by rw[zj];omega) s.2.2.2.1.length (Nat.le_refl _) 0
     rw[List.take_length] at f2
     rw[f1,zc]
     by_cases hr:0<=r
     ·rw[zT hr] at f2
      rw[zF (by omega),<-f2];rfl
     ·rw[zF hr] at f2
      rw[zT (by omega),<-f2];rfl
end bF

