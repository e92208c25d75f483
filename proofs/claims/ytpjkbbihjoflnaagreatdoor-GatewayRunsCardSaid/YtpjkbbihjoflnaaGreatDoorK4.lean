/- No condition. -/
import Derived.Test.YtpjkbbihjoflnaaGreatDoorK3
set_option linter.unusedVariables false
set_option linter.unusedSimpArgs false
set_option maxRecDepth 100000
open Bool renaming not_true->ab,and_eq_true->nd,not_false->GW,or_eq_false_iff->za8,true_and->zbC,and_false->zbW,false_or->zbX,or_false->zb2,or_eq_true->zcJ,true_or->zgC
open ByteArray renaming size_extract->zar,size_append->zaU,append_assoc->zcw,data_append->zcC
open Classical renaming byContradiction->zfA
open Int renaming toNat_natCast->ba,toNat_of_nonneg->zaG,le_refl->zaT,reduceEq->za7,tmod_eq_emod_of_nonneg->zdq,tdiv_eq_ediv_of_nonneg->zdr,sub_zero->zel
open List renaming length->aa,getD->an,getD_eq_getElem?_getD->be,getElem?_eq_getElem->ks,length_cons->ls,replicate->so,length_append->th,drop_eq_getElem_cons->AT,length_singleton->By,mem_cons_of_mem->Cs,drop_eq_nil_of_le->GA,drop_zero->GS,mem_cons->If,take->It,mem_cons_self->IS,append_assoc->MM,mem_append->M2,length_take->Of,mem_filter->zab,drop->zac,nil_append->zah,pairwise_cons->zak,getElem_mem->zan,mem_range->zao,map_cons->zaq,mem_map->zau,length_nil->zav,append_nil->zay,length_drop->zaD,take_length->zaH,range->zaJ,length_map->zaR,mem_of_find?_eq_some->zaV,map_append->zaY,pairwise_append->za0,set->za1,foldl_cons->za3,take_of_length_le->za6,take_zero->zbd,mem_append_left->zbm,find?_cons->zbB,map_congr_left->zbD,mem_append_right->zbE,map_nil->zbK,cons_append->zbM,filter_cons->zbO,filter_eq_self->zbS,length_replicate->zbY,any_eq_true->zb0,foldl_append->zb5,map_map->zcz,filter_append->zcA,length_filter_le->zcD,filter_congr->zcL,take_append_getElem->zcN,any_cons->zdo,length_eq_zero_iff->zdU,find?_some->zdW,filter_cons_of_neg->zdX,length_range->zfG,filter_cons_of_pos->zfQ,filter_eq_nil_iff->zfX
open List.Pairwise renaming nil->zcK,imp_of_mem->zfH
open Nat renaming le_refl->zag,pow_le_pow_right->zaI,zero_le->zaX,testBit_lt_two_pow->zaZ,testBit_eq_decide_div_mod_eq->zbP,testBit_mod_two_pow->zcW,pow_succ->zdL,add_assoc->zdP,two_pow_add_eq_or_of_lt->zeL,add_comm->zeT
open Option renaming bind_some->ir,bind->zee
open Sum renaming elim_inr->zaA,elim_inl->zek
namespace bz
open Go.IntKind renaming wrap->zW,i64->zI,u8->zU
open Go Go.Ref
theorem RF{ae c:Int}(h:cH ae c=1):ae=2/\c=1:=by
 unfold cH at h;split at h
 ·assumption
 ·split at h<;>cases h
theorem RG{ae c:Int}(h:cH ae c=2):ae=1/\(c=5\/c=6):=by
 unfold cH at h;split at h
 ·cases h
 ·split at h
  ·assumption
  ·cases h
theorem RE{ae c:Int}(h:cH ae c=0)(hs:ae=1\/ae=2)(hc:c<=6):(ae=1/\¬5<=c)\/(ae=2/\¬c=1):=by
 unfold cH at h;split at h
 ·cases h
 ·split at h
  ·cases h
  ·omega
theorem EZ(ae:Int)(s:Spec)(b:ByteArray)(n a:Nat)(hb:b.size<=1099511627776)(hn:n<=999)(ha:a<=b.size)(hs:ae=1\/ae=2)(hc:s.2.1<=6):xJ ae b a n s=some (uJ (cH ae s.2.1) s b n a):=by
 have w0:zW zI ((b.size:Int)-(a:Int))=(b.size:Int)-a:=zi (by omega) (by omega);have w1:∀z:Nat,z<=2000->zW zI ((a:Int)+(z:Int))=((a+z:Nat):Int):=λz hz=>by rw[zi (by omega) (by omega)];omega
 have hx:∀z:Nat,((a+z:Nat):Int).toNat=a+z:=λz=>ba _;have wI:∀z:Nat,(b.extract a (a+z)).size<=1099511627776:=λz=>by rw[zar];omega
 have ez:zW zI ((n:Int)+(n:Int))=((2*n:Nat):Int):=by rw[zi (by omega) (by omega)];omega
 have e1:zW zI ((n:Int)+1)=((n+1:Nat):Int):=by rw[zi (by omega) (by omega)];omega
 have e2:Int.tdiv ((n+1:Nat):Int) 2=(((n+1)/2:Nat):Int):=rfl;have e3:zW zI (((n+1)/2:Nat):Int)=(((n+1)/2:Nat):Int):=zi (by omega) (by omega);unfold uJ jq mV;rcases zly ae s.2.1 with hh|hh|hh
 ·have key:xJ ae b a n s=bif decide ((b.size:Int)-a<(n:Int)) then some (bs [],0,2) else bif decide ((0:Int)<=((a+n:Nat):Int)) then bif decide (((a+n:Nat):Int)<=(b.size:Int)) then bif decide ((0:Int)<=(a:Int)) then bif decide ((a:Int)<=((a+n:Nat):Int)) then(kg s (b.extract a (a+n))).bind λr6=>bif !(decide (r6=(0:Int))) then some (bs [],0,r6) else some (b.extract a (a+n),((a+n:Nat):Int),0) else none else none else none else none:=by
   rcases RE hh hs hc with⟨h1,h2⟩|⟨h1,h2⟩
   ·subst h1;simp only[xJ,OQ,OR,OS,OT,Ok,Ol,Om,My,On,Oo,Mz,Oq,CG,CH,CI,CJ,MA,Cz,MB,z85,CA,MC,z87,MD,ME,za7,decide_true,decide_false,zC,zD,h2,w0,w1 n (by omega),hx,ba]
   ·subst h1;simp only[xJ,OQ,OR,OS,OT,Ok,Ol,Om,My,On,Oo,Mz,Oq,CG,CH,CI,CJ,MA,Cz,MB,z85,CA,MC,z87,MD,ME,za7,decide_true,decide_false,zC,zD,h2,w0,w1 n (by omega),hx,ba]
  rw[key,hh];simp only[za7,if_false];split
  ·rename_i hc;rw[zT (by omega),zC]
  ·rename_i hc;rw[zF (by omega),zD,zT (by omega),zC,zT (by omega),zC,zT (by omega),zC,zT (by omega),zC,xB _ _ (wI n),zc];unfold kX;by_cases hv:bJ s (b.extract a (a+n))=0
   ·simp only[hv,decide_true,ab,zD,if_true]
   ·simp only[hv,decide_false,GW,zC,if_false]
 ·have key:xJ ae b a n s=bif decide ((b.size:Int)-a<(((n+1)/2:Nat):Int)) then some (bs [],0,2) else bif decide ((0:Int)<=((a+(n+1)/2:Nat):Int)) then bif decide (((a+(n+1)/2:Nat):Int)<=(b.size:Int)) then bif decide ((0:Int)<=(a:Int)) then bif decide ((a:Int)<=((a+(n+1)/2:Nat):Int)) then(ux (b.extract a (a+(n+1)/2)) n).bind λr4=>bif !(decide (r4.2.1=(0:Int))) then some (bs [],0,r4.2.1) else(kg s r4.1).bind λr6=>bif !(decide (r6=(0:Int))) then some (bs [],0,r6) else some (r4.1,((a+(n+1)/2:Nat):Int),0) else none else none else none else none:=by obtain⟨h1,h2⟩:=RF hh;subst h1;simp only[xJ,OQ,OR,OS,OT,Ok,Ol,Om,My,On,Oo,Mz,Oq,CG,CH,CI,CJ,MA,Cz,MB,z85,CA,MC,z87,MD,ME,za7,decide_true,decide_false,zC,zD,h2,w0,e1,e2,e3,w1 ((n+1)/2) (by omega),hx,ba]
  rw[key,hh];simp only[if_true];split
  ·rename_i hc;rw[zT (by omega),zC]
  ·rename_i hc;rw[zF (by omega),zD,zT (by omega),zC,zT (by omega),zC,zT (by omega),zC,zT (by omega),zC,ztz _ _ (wI _),zc];generalize hg:kb (b.extract a (a+(n+1)/2)) (n:Int)=g;obtain⟨t,e,i⟩:=g;have jd:=YZ hg;dsimp only;by_cases he:e=0
   ·rw[zT he,ab,zD,if_pos he,xB _ _ (by omega),zc];unfold kX;by_cases hv:bJ s t=0
    ·simp only[hv,decide_true,ab,zD,if_true]
    ·simp only[hv,decide_false,GW,zC,if_false]
   ·rw[zF he,GW,zC,if_neg he];rfl
 ·have key:xJ ae b a n s=bif decide ((b.size:Int)-a<((2*n:Nat):Int)) then some (bs [],0,2) else bif decide ((0:Int)<=((a+2*n:Nat):Int)) then bif decide (((a+2*n:Nat):Int)<=(b.size:Int)) then bif decide ((0:Int)<=(a:Int)) then bif decide ((a:Int)<=((a+2*n:Nat):Int)) then(C9 (b.extract a (a+2*n))).bind λr5=>bif !r5.2.2 then some (bs [],0,3) else(kg s r5.1).bind λr6=>bif !(decide (r6=(0:Int))) then some (bs [],0,r6) else some (r5.1,((a+2*n:Nat):Int),0) else none else none else none else none:=by
   obtain⟨h1,h2⟩:=RG hh;have h3:5<=s.2.1:=by omega
   subst h1;simp only[xJ,OQ,OR,OS,OT,Ok,Ol,Om,My,On,Oo,Mz,Oq,CG,CH,CI,CJ,MA,Cz,MB,z85,CA,MC,z87,MD,ME,za7,decide_true,decide_false,zC,zD,h3,w0,ez,w1 (2*n) (by omega),hx,ba]
  rw[key,hh];simp only[za7,if_false,if_true];split
  ·rename_i hc;rw[zT (by omega),zC]
  ·rename_i hc;rw[zF (by omega),zD,zT (by omega),zC,zT (by omega),zC,zT (by omega),zC,zT (by omega),zC,Va _ (wI _),zc];have jd:=ztf (b.extract a (a+2*n));have h3:=wI (2*n);generalize mH (b.extract a (a+2*n))=g at jd;obtain⟨t,i,ok⟩:=g;dsimp only at jd⊢;cases ok with
   |true=>
    rw[ab,zD,if_pos rfl,xB _ _ (by omega),zc];unfold kX;by_cases hv:bJ s t=0
    ·simp only[hv,decide_true,ab,zD,if_true]
    ·simp only[hv,decide_false,GW,zC,if_false]
   |false=>rw[GW,zC,if_neg (by decide)];rfl
theorem ajC(ae:Int)(s:Spec)(b:ByteArray)(at_:Int)(hb:b.size<=1099511627776):Nj ae s b at_=some (z28 ae s b at_):=by
 have hk:Nj ae s b at_=bif decide ((ae=1\/ae=2)/\bM s=0/\0<=at_/\at_<=b.size) then BO ae b at_ s else some (bs [],0,1):=by
  unfold Nj OU;simp only[xx,zc];by_cases h1:ae=1<;>by_cases h2:ae=2<;>by_cases h3:bM s=0<;>by_cases h4:at_<0<;>by_cases h5:(b.size:Int)<at_<;>(try(exfalso;omega))<;>simp [h1,h2,h3,h4,h5,Lt,BP]
  all_goals(try omega)
  all_goals first
   |(rw[zT (by omega),zT (by omega)];rfl)
   |(rw[zF (by omega)];rfl)
   |(rw[zT (by omega),zF (by omega)];rfl)
 rw[hk];unfold z28;by_cases h0:(ae=1\/ae=2)/\bM s=0/\0<=at_/\at_<=(b.size:Int)
 case neg=>rw[zF h0,if_neg h0];rfl
 rw[zT h0,zC,if_pos h0];obtain⟨h1,h2,h3,h4⟩:=h0;obtain⟨k1,k2,k3,k4,k5,k6,k7,k8,k9⟩:=Oz h2;obtain⟨m,rfl⟩:∃m:Nat,at_=m:=⟨at_.toNat,by omega⟩
 unfold BO z116 B8;by_cases h5:s.2.2.1=1
 ·rw[zT h5,ab,zD,if_pos h5];have:=EZ ae s b s.2.2.2.1.toNat m hb (by omega) (by omega) h1 k2;rw[zaG (by omega),k9 h5] at this;rw[k9 h5];exact this
 ·rw[zF h5,GW,zC,if_neg h5,ajB _ _ _ _ hb,zc];by_cases h6:(jI ae s.2.2.1 b m).2.2=0
  case neg=>rw[zF h6,if_pos h6];rfl
  rw[zT h6,ab,zD,if_neg (λh=>h h6)];have hp:=UH h6;unfold Lu OV Lv z117 Lw BQ;dsimp only;by_cases h7:(jI ae s.2.2.1 b m).1<s.2.2.2.1
  ·rw[zT h7,if_pos (.inl h7)];rfl
  rw[zF h7,zD];by_cases h8:s.2.2.2.2.1<(jI ae s.2.2.1 b m).1
  ·rw[zT h8,if_pos (.inr h8)];rfl
  rw[zF h8,zD,if_neg (λh=>h.elim h7 h8)];have:=EZ ae s b (jI ae s.2.2.1 b m).1.toNat (jI ae s.2.2.1 b m).2.1.toNat hb (by omega) (by omega) h1 k2;rw[zaG (by omega),zaG (by omega)] at this;exact this
def km(h:Int)(t:ByteArray):ByteArray:=if h=1 then(oR t).1 else if h=2 then z40 t else t
def ky(ae form:Int)(n:Nat):ByteArray:=if form=1 then bs [] else(CP ae form n).1
def uM(ae:Int)(s:Spec)(t:ByteArray):ByteArray×Int:=
 if¬(ae=1\/ae=2) then(bs [],1) else if¬bJ s t=0 then(bs [],bJ s t) else(ky ae s.2.2.1 t.size++km (cH ae s.2.1) t,0)
theorem zl3(t:ByteArray):(oR t).1.size<=500:=by
 by_cases h:t.size<=999/\bE (bl t)=true
 ·rw[zcd h.1 h.2];omega
 ·unfold oR;rw[zF h];exact zaX _
theorem zm7(ae form:Int)(n:Nat):(ky ae form n).size<=500:=by
 unfold ky CP;split
 ·exact zaX _
 ·cases fK ae form with
  |false=>exact zaX _
  |true=>
   cases(jm (n:Int) form).2 with
   |false=>exact zaX _
   |true=>
    show(if ae=2 then _ else _:ByteArray).size<=500;split
    ·exact zl3 _
    ·have:=zm8 (n:Int) form;omega
theorem zle(h:Int)(t:ByteArray):(km h t).size<=2*t.size+500:=by
 unfold km;split
 ·have:=zl3 t;omega
 ·split
  ·rw[zcn];omega
  ·omega
theorem LI(x:ByteArray):bs []++x=x:=by apply ByteArray.ext;simp [zcC,bs]
theorem aeO(ae c:Int)(t:ByteArray)(hs:ae=1\/ae=2)(hc:c<=6)(ht:t.size<=1099511627776):xU ae c t=some (km (cH ae c) t):=by
 unfold xU BR km cH;have hp:=zu1 t (by simp only[maxLen];omega);have hq:=Vc t ht;rcases hs with rfl|rfl
 ·by_cases h5:(5:Int)<=c
  ·have:c=5\/c=6:=by omega
   simp [h5,hq,this]
  ·have h6:¬(c=5\/c=6):=by omega
   simp [h5,h6]
 ·by_cases h1:c=1
  ·simp [h1,hp]
  ·simp [h1]
theorem ajI(ae:Int)(s:Spec)(t:ByteArray)(ht:t.size<=1099511627776):F4 ae s t=some (uM ae s t):=by
 have key:ae=1\/ae=2->(kg s t).bind (λr1=>(bif(!(decide (r1=(0:Int)))) then some (bs [],r1) else(bif(!(decide (s.2.2.1=(1:Int)))) then((F3 ae s.2.2.1 ((t).size:Int)).bind λr2=>((xU ae s.2.1 t).bind λr3=>(bif decide ((r2.1).size+(r3).size<=9223372036854775807) then some (r2.1++r3,(0:Int)) else none))) else((xU ae s.2.1 t).bind λr4=>(bif decide (((bs [])).size+(r4).size<=9223372036854775807) then some ((bs [])++r4,(0:Int)) else none)))))=some (uM ae s t):=λhs=>by
  unfold uM;rw[xB s t ht,zc,if_neg (λh=>h hs)];by_cases hv:bJ s t=0
  case neg=>rw[zF hv,if_pos hv];rfl
  rw[zT hv,ab,zD,if_neg (λh=>h hv)];have hk:=Oz ((NZ s t ht).1 hv).1;have eU:=zle (cH ae s.2.1) t;have iz:=zm7 ae s.2.2.1 t.size;rw[aeO ae s.2.1 t hs (by omega) ht];simp only[zc];by_cases h1:s.2.2.1=1
  ·rw[zT h1,ab,zD,zT (by show 0+_<=_;omega),zC];unfold ky;rw[if_pos h1]
  ·unfold ky at iz⊢;rw[if_neg h1] at iz;rw[zF h1,GW,zC,ajH _ _ _ (by omega),zc,zT (by omega),zC,if_neg h1]
 unfold F4 z119;by_cases h1:ae=1
 ·rw[zT h1,ab,zD];exact key (.inl h1)
 ·rw[zF h1,GW,zC];by_cases h2:ae=2
  ·rw[zT h2,ab,zD];exact key (.inr h2)
  ·rw[zF h2,GW,zC];unfold uM;rw[if_pos (λh=>h.elim h1 h2)]
theorem aeM(ae:Int)(s:Spec)(t:ByteArray)(ht:t.size<=1099511627776):FP ae s t=some (uM ae s t):=by
 unfold FP zxc FR zi9 uM;have eU:=zle (cH ae s.2.1) t;have iz:=zm7 ae s.2.2.1 t.size;have main:ae=1\/ae=2->(cf s t).bind (λr2=>(bif(!(decide (r2=(0:Int)))) then some (bs [],r2) else(bif(!(decide (s.2.2.1=(1:Int)))) then((s8 ae s.2.2.1 ((t).size:Int)).bind λr3=>((lY ae s.2.1).bind λr4=>(bif(decide (r4=(1:Int))) then((Q1 t).bind λr5=>(bif decide ((r3.1).size+(r5.1).size<=9223372036854775807) then some (r3.1++r5.1,(0:Int)) else none)) else(bif(decide (r4=(2:Int))) then((kI t).bind λr6=>(bif decide ((r3.1).size+(r6).size<=9223372036854775807) then some (r3.1++r6,(0:Int)) else none)) else(bif decide ((r3.1).size+(t).size<=9223372036854775807) then some (r3.1++t,(0:Int)) else none))))) else((lY ae s.2.1).bind λr7=>(bif(decide (r7=(1:Int))) then((Q1 t).bind λr8=>(bif decide (((bs [])).size+(r8.1).size<=9223372036854775807) then some ((bs [])++r8.1,(0:Int)) else none)) else(bif(decide (r7=(2:Int))) then((kI t).bind λr9=>(bif decide (((bs [])).size+(r9).size<=9223372036854775807) then some ((bs [])++r9,(0:Int)) else none)) else(bif decide (((bs [])).size+(t).size<=9223372036854775807) then some ((bs [])++t,(0:Int)) else none)))))))=some (if¬bJ s t=0 then(bs [],bJ s t) else(ky ae s.2.2.1 t.size++km (cH ae s.2.1) t,0)):=λhs=>by
  rw[ye s t ht,zc];by_cases hv:bJ s t=0
  case neg=>rw[zF hv,if_pos hv];rfl
  rw[zT hv,ab,zD,if_neg (λh=>h hv)];simp only[Ca,zc,aiP _ _ _ (show(t.size:Int)<=9223372036854775807 by omega),zl2 t (by simp only[maxLen];omega),S0 t ht];have hz:(bs []).size=0:=rfl;by_cases h1:s.2.2.1=1
  ·rw[zT h1,ab,zD];unfold ky;rw[if_pos h1];unfold km at eU⊢;rcases zly ae s.2.1 with hh|hh|hh<;>rw[hh] at eU⊢ <;>simp only[za7,decide_true,decide_false,zC,zD,if_true,if_false] at eU⊢
   all_goals rw[zT (by omega),zC]
  ·rw[zF h1,GW,zC];unfold ky at iz⊢;rw[if_neg h1] at iz⊢;unfold km at eU⊢;rcases zly ae s.2.1 with hh|hh|hh<;>rw[hh] at eU⊢ <;>simp only[za7,decide_true,decide_false,zC,zD,if_true,if_false] at eU⊢
   all_goals rw[zT (by omega),zC]
 by_cases h1:ae=1
 ·rw[zT h1,zC,zc,ab,zD,if_neg (λh=>h (.inl h1))];exact main (.inl h1)
 ·rw[zF h1,zD,zc];by_cases h2:ae=2
  ·rw[zT h2,ab,zD,if_neg (λh=>h (.inr h2))];exact main (.inr h2)
  ·rw[zF h2,if_pos (λh=>h.elim h1 h2)];rfl
theorem apA(x p y:ByteArray):(x++p++y).extract x.size (x.size+p.size)=p:=by apply xK;rw[xC,oH,oH,MM,<-zf,<-zf,List.take_append,List.drop_append_of_le_length (by simp),];simp
theorem xG(x y:ByteArray):(x++y).size=x.size+y.size:=zaU ..
theorem Xn(b:ByteArray){i j k:Nat}(h:i<=j)(h2:j<=k):b.extract i j++b.extract j k=b.extract i k:=by
 apply xK;rw[oH,xC,xC,xC];generalize bl b=l;have e1:l.take j=(l.take k).take j:=by rw[List.take_take];congr 1;omega
 rw[e1];generalize l.take k=q;rw[<-List.take_append_drop (j-i) (q.drop i),List.drop_take,List.drop_drop,show i+(j-i)=j by omega]
theorem Uf{s:ByteArray}{n:Int}(h:du (bl s)=(n,true)):jm n s.size=(s,true)/\0<=n:=by
 unfold du at h;split at h
 ·rename_i hc;obtain⟨h1,h2,h3⟩:=hc;have hv:dG (bl s) 0=n:=congrArg Prod.fst h;have hn:=(Tn (bl s) 0 0 h3 (zaT _) (by simp) (by omega)).1;rw[hv] at hn;obtain⟨e1,e2⟩:=zw6 (bl s).length n.toNat (bl s) h3 rfl (by rw[hv,zaG hn]);rw[zf] at e1 e2 h1 h2;refine⟨?_,hn⟩;rw[zm9 ⟨hn,by omega,by omega,by rw[ba];exact e2⟩,ba,e1,Cq]
 ·cases h
theorem aiO{ae form:Int}:fK ae form=true↔(ae=1\/ae=2)/\(form=2\/form=3):=by unfold fK;rw[decide_eq_true_eq]
theorem afh{ae form n:Int}{s:ByteArray}(hk:fK ae form=true)(h:pU ae form s=some n)(hs:s.size=lC ae form):CP ae form n=(s,0)/\0<=n:=by
 have Gy:=aiO.1 hk;unfold pU at h;unfold lC at hs;unfold CP;rw[hk,zC];by_cases h2:ae=2
 ·rw[if_pos h2] at h hs⊢;generalize hg:kb s form=g at h;obtain⟨t,e,i⟩:=g;dsimp only at h;split at h
  case isFalse=>cases h
  rename_i he;subst he;obtain⟨a1,a2,a3⟩:=TH hg (by omega);split at h
  case isFalse=>cases h
  rename_i ho;have hn:(du (bl t)).1=n:=by simpa using h
  obtain⟨c1,c2⟩:=Uf (s:=t) (n:=n) (by rw[<-hn,<-ho]);rw[a2] at c1;rw[c1,zC];dsimp only;rw[a1];exact⟨rfl,c2⟩
 ·rw[if_neg h2] at h hs⊢;split at h
  case isFalse=>cases h
  rename_i ho;have hn:(du (bl s)).1=n:=by simpa using h
  obtain⟨c1,c2⟩:=Uf (s:=s) (n:=n) (by rw[<-hn,<-ho]);rw[hs,zaG (by omega)] at c1;rw[c1];exact⟨rfl,c2⟩
theorem aiQ{ae form n z:Int}{b:ByteArray}{a:Nat}(h:jI ae form b a=(n,z,0)):fK ae form=true/\0<=n/\a<=b.size/\z=((a+lC ae form:Nat):Int)/\a+lC ae form<=b.size/\CP ae form n=(b.extract a (a+lC ae form),0):=by
 unfold jI at h;cases hk:(fK ae form&&decide (0<=(a:Int)/\(a:Int)<=(b.size:Int))) with
 |false=>rw[hk] at h;cases h
 |true=>
  rw[hk,zC,ba] at h;rw[nd,decide_eq_true_eq] at hk;split at h
  ·cases h
  ·rename_i hs;split at h
   ·rename_i m hm;cases h;obtain⟨c1,c2⟩:=afh hk.1 hm (Co (by omega));exact⟨hk.1,c2,by omega,rfl,by omega,c1⟩
   ·cases h
theorem ah0{ae:Int}{s:Spec}{c t:ByteArray}{n:Nat}(hc:c.size=jq (cH ae s.2.1) n)(hn:n<=999)(h:mV (cH ae s.2.1) c n= .inr t):km (cH ae s.2.1) t=c/\t.size=n:=by
 unfold mV at h;unfold jq at hc;unfold km;rcases zly ae s.2.1 with hh|hh|hh<;>rw[hh] at h hc⊢ <;>simp only[za7,if_true,if_false] at h hc⊢
 ·injection h with h
  exact⟨h.symm,by rw[<-h];exact hc⟩
 ·split at h
  case isFalse=>cases h
  rename_i he;generalize hg:kb c (n:Int)=g at h he;obtain⟨t',e,i⟩:=g;dsimp only at h he;subst he;injection h with h
  subst h;obtain⟨a1,a2,a3⟩:=TH hg (by omega);exact⟨by rw[a1],by omega⟩
 ·split at h
  case isFalse=>cases h
  rename_i he;generalize hg:mH c=g at h he;obtain⟨t',i,ok⟩:=g;dsimp only at h he;subst he;injection h with h
  subst h;obtain⟨a1,a2⟩:=zlx hg;exact⟨a1,by omega⟩
theorem SI{ae z:Int}{s:Spec}{b t:ByteArray}{a:Nat}(hb:b.size<=1099511627776)(h:z28 ae s b a=(t,z,0)):(ae=1\/ae=2)/\bJ s t=0/\(a:Int)<=z/\z<=b.size/\t.size<=999/\(uM ae s t).1=b.extract a z.toNat:=by
 unfold z28 at h;split at h
 case isFalse=>cases h
 rename_i hc;obtain⟨hs,v1,ha0,ha1⟩:=hc;obtain⟨k1,k2,k3,k4,k5,k6,k7,k8,k9⟩:=Oz v1;have body:∀(n p:Nat),n<=999->uJ (cH ae s.2.1) s b n p=(t,z,0)->bJ s t=0/\z=((p+jq (cH ae s.2.1) n:Nat):Int)/\p+jq (cH ae s.2.1) n<=b.size/\t.size=n/\km (cH ae s.2.1) t=b.extract p (p+jq (cH ae s.2.1) n):=by
  intro n p hn h;unfold uJ at h;split at h
  ·cases h
  ·rename_i ap;cases hg:mV (cH ae s.2.1) (b.extract p (p+jq (cH ae s.2.1) n)) (n:Int) with
   |inl e=>
    rw[hg] at h;replace h:(bs [],(0:Int),e)=(t,z,0):=h;injection h with _ h
    injection h with _ h
    exfalso;subst h;unfold mV at hg;split at hg
    ·split at hg
     ·cases hg
     ·rename_i bR;injection hg with hg
      exact bR hg
    ·split at hg
     ·split at hg<;>cases hg
     ·cases hg
   |inr t'=>
    rw[hg] at h;replace h:(if bJ s t'=0 then(t',((p+jq (cH ae s.2.1) n:Nat):Int),(0:Int)) else(bs [],0,bJ s t'))=(t,z,0):=h;split at h
    ·rename_i hv;cases h;obtain⟨c1,c2⟩:=ah0 (Co (by omega)) hn hg;exact⟨hv,rfl,by omega,c2,c1⟩
    ·rename_i hv;injection h with _ h
     injection h with _ h
     exact absurd h hv
 have fin:bJ s t=0->(uM ae s t).1=ky ae s.2.2.1 t.size++km (cH ae s.2.1) t:=λhv=>by unfold uM;rw[if_neg (λh=>h hs),if_neg (λh=>h hv)]
 unfold B8 at h;by_cases hf:s.2.2.1=1
 ·rw[if_pos hf] at h;obtain⟨b1,b2,b3,b4,b5⟩:=body _ _ (by omega) h;rw[ba] at b2 b3 b5;refine⟨hs,b1,by omega,by omega,by omega,?_⟩;rw[fin b1,b5,b2,ba];unfold ky;rw[if_pos hf,LI]
 ·rw[if_neg hf] at h;split at h
  ·rename_i he;unfold Ep at h;injection h with _ h
   injection h with _ h
   exact absurd h he
  ·rename_i he;split at h
   ·cases h
   ·rename_i hr;generalize hg:jI ae s.2.2.1 b (a:Int)=g at h he hr;obtain⟨n,z',e⟩:=g;dsimp only at h he hr;have he:e=0:=by
     by_cases e0:e=0
     ·exact e0
     ·exact absurd e0 he
    subst he;obtain⟨q1,q2,q3,q4,q5,q6⟩:=aiQ hg;obtain⟨b1,b2,b3,b4,b5⟩:=body _ _ (by omega) h;dsimp only at b2 b3 b5;subst q4;rw[ba] at b2 b3 b5;refine⟨hs,b1,by omega,by omega,by omega,?_⟩;rw[fin b1,b5,b2,ba];have hpc:ky ae s.2.2.1 t.size=b.extract a (a+lC ae s.2.2.1):=by unfold ky;rw[if_neg hf,b4,zaG q2,q6]
    rw[hpc,Xn _ (by omega) (by omega)]
def ou(n:Nat)(l:List Int):Nat:=l.foldl (λn c=>n*256+c.toNat) n
def gY(l:List Int):Nat:=ou 0 l
def lO(x:Nat):List Int:=[((x/72057594037927936 % 256:Nat):Int),((x/281474976710656 % 256:Nat):Int),((x/1099511627776 % 256:Nat):Int),((x/4294967296 % 256:Nat):Int),((x/16777216 % 256:Nat):Int),((x/65536 % 256:Nat):Int),((x/256 % 256:Nat):Int),((x % 256:Nat):Int)]
theorem J8{x:Nat}(h:x<18446744073709551616):gY (lO x)=x:=by simp only[gY,ou,lO,List.foldl,ba];omega
theorem eight{l:List Int}(h:l.length=8):∃a b c d e f g i,l=[a,b,c,d,e,f,g,i]:=by
 match l,h with
 | [a,b,c,d,e,f,g,i],_=>exact⟨a,b,c,d,e,f,g,i,rfl⟩
def zl9:Nat->Nat->List Int
 |0,_=>[]
 |m+1,x=>zl9 m (x/256)++ [((x % 256:Nat):Int)]
theorem U1(l:List Int)(n:Nat)(c:Int):ou n (l++ [c])=ou n l*256+c.toNat:=by unfold ou;rw[zb5];rfl
theorem SH:∀(m:Nat) (l:List Int),l.length=m->(∀y∈l,zn y)->zl9 m (gY l)=l/\gY l<256^m
 |0,l,h,_=>by have:=zdU.1 h;subst this;exact⟨rfl,by decide⟩
 |m+1,l,h,hb=>by
  obtain⟨q,c,rfl⟩:∃q c,l=q++ [c]:=by
   rcases List.eq_nil_or_concat l with e|⟨q,c,e⟩
   ·rw[e] at h;cases h
   ·exact⟨q,c,by rw[e,List.concat_eq_append]⟩
  obtain⟨i1,i2⟩:=SH m q (by rw[th,By] at h;omega) λy hy=>hb y (zbm _ hy);have hc:=hb c (zbE _ (by simp));unfold zn at hc;unfold gY at i1 i2⊢;rw[U1];generalize ou 0 q=v at i1 i2;refine⟨?_,by rw[zdL];omega⟩;rw[zl9,show(v*256+c.toNat)/256=v by omega,i1,show(v*256+c.toNat)% 256=c.toNat by omega,zaG hc.1]
theorem QL(x:Nat):lO x=zl9 8 x:=by simp only[zl9,lO,Nat.div_div_eq_div_mul,zah,zbM]
theorem MK{l:List Int}(h:l.length=8)(hb:∀y∈l,zn y):lO (gY l)=l/\gY l<18446744073709551616:=by obtain⟨h1,h2⟩:=SH 8 l h hb;rw[QL];exact⟨h1,by rw[show(256:Nat)^8=18446744073709551616 from by decide] at h2;exact h2⟩
theorem Vr(x:Nat):∀y∈lO x,zn y:=by intro y hy;unfold lO at hy;simp only[If,List.not_mem_nil,or_false] at hy;unfold zn;omega
theorem Xk(x:Nat):(lO x).length=8:=rfl
theorem zg5{x:Nat}(hx:x<18446744073709551616):lO x=[0,0,0,0,0,0,0,0]↔x=0:=by
 constructor
 ·intro h;have:=J8 hx;rw[h] at this;rw[<-this];rfl
 ·rintro rfl;rfl
theorem LU(n:Nat):zW zU (n:Int)=((n % 256:Nat):Int):=by simp [IntKind.wrap,IntKind.signed,IntKind.bits]
theorem Fk(k x:Nat)(j:Nat)(hj:j<8)(p q:List Int):iP (k+1) (x:Int) (j:Int) p q=iP k (x:Int) ((j+1:Nat):Int) p (q.set j ((x/2^(8*(7-j))% 256:Nat):Int)):=by
 have e1:zW zI ((7:Int)-(j:Int))=((7-j:Nat):Int):=by rw[zi (by omega) (by omega)];omega
 have e2:zW zI ((8:Int)*((7-j:Nat):Int))=((8*(7-j):Nat):Int):=by rw[zi (by omega) (by omega)];omega
 conv=>lhs;unfold iP nF
 rw[zT (by omega),zC,e1,e2,zF (by omega),zD,zh hj,Zo x _ (by omega),LU,zq (by omega),ba]
theorem ahV(k x:Nat)(p q:List Int):iP (k+1) (x:Int) ((8:Nat):Int) p q=some (p,q):=by unfold iP nF;rw[zF (by omega)];rfl
theorem zw4(x:Nat):Q8 (x:Int)=some (lO x):=by
 obtain⟨k,hk⟩:∃k,af=k+9:=⟨af-9,by rw[zo]⟩
 unfold Q8 qU;dsimp only;rw[hk,show(0:Int)=((0:Nat):Int) from rfl,Fk _ x 0 (by decide),Fk _ x 1 (by decide),Fk _ x 2 (by decide),Fk _ x 3 (by decide),Fk _ x 4 (by decide),Fk _ x 5 (by decide),Fk _ x 6 (by decide),Fk _ x 7 (by decide),ahV,zc];unfold qV lO;simp
theorem aro{n c:Nat}(hc:c<256):n*256|||c=n*256+c:=by have:=zeL (i:=8) (b:=c) hc n;rw[show(2:Nat)^8=256 from rfl,Nat.mul_comm 256 n] at this;exact this.symm
theorem TK(l:List Int)(hl:l.length=8)(hb:∀y∈l,zn y):∀(m j k n:Nat),j+m=8->m<k->n<256^j->kP k (n:Int) l (j:Int)=some ((ou n (l.drop j):Nat):Int)
 |m,j,0,n,_,hk,_=>by omega
 |0,j,k+1,n,hj,hk,_=>by unfold kP nD;rw[zF (by omega),zD,GA (by omega)];rfl
 |m+1,j,k+1,n,hj,hk,hn=>by
  have ap:j<l.length:=by omega
  have hc:=hb _ (zan ap);unfold zn at hc;have hg:l.getD j 0=l[j]:=by rw[be,ks ap];rfl
  have hp:(256:Nat)^j<=256^7:=zaI (by decide) (by omega);have hp7:(256:Nat)^7=72057594037927936:=by decide
  obtain⟨c,hcc⟩:∃c:Nat,l[j]=(c:Int):=⟨l[j].toNat,by omega⟩
  unfold kP nD;rw[zT (by omega),zC,zh (by omega),ba,hg,hcc,zq (by omega)];have e1:IntKind.u64.wrap ((n:Int)*2^min ((8:Int)).toNat 64)=((n*256:Nat):Int):=by
   have:((n:Int)*2^min ((8:Int)).toNat 64)=((n*256:Nat):Int):=by rw[show min ((8:Int)).toNat 64=8 from rfl,show(2:Int)^8=256 from by decide];omega
   rw[this];exact OA (by omega)
  rw[e1,OA (by omega),AO (by omega) (by omega),aro (by omega)];dsimp only;have RA:n*256+c<256^(j+1):=by rw[zdL];omega
  rw[TK l hl hb m (j+1) k _ (by omega) (by omega) RA,AT ap,hcc];rfl
theorem Xi(l:List Int)(hl:l.length=8)(hb:∀y∈l,zn y):Q7 l=some ((gY l:Nat):Int):=by unfold Q7 qP;have:=TK l hl hb 8 0 af 0 (by omega) (by rw[zo];omega) (by decide);rw[show((0:Nat):Int)=0 from rfl,GS] at this;dsimp only;rw[this];rfl
def dZ(ae:Int):Nat:=if ae=1 then 16 else 8
def kA(ae:Int)(b:ByteArray)(a:Nat):Sum Int Nat:=
 if b.size<a+dZ ae then .inl 2 else if ae=1 then(if(mH (b.extract a (a+dZ ae))).2.2=true then .inr (gY (bl (mH (b.extract a (a+dZ ae))).1)) else .inl 3) else .inr (gY (bl (b.extract a (a+dZ ae))))
def xn(a:Nat)(ae:Int):Sum Int Nat->List Int×Int×Int
 | .inl e=>(so 8 0,0,e)
 | .inr x=>(lO x,((a+dZ ae:Nat):Int),0)
theorem Er{t:ByteArray}(h:t.size=8):ci (so 8 (0:Int)) (It 8 (oT t)) 0=lO (gY (bl t)):=by
 have hl:(bl t).length=8:=by rw[zf];exact h
 rw[(MK hl λy hy=>ii hy).1];have dp:oT t=bl t:=rfl;rw[dp];obtain⟨a,b,c,d,e,f,g,i,hq⟩:=eight hl;rw[hq];rfl
theorem sw{s t:ByteArray}{i:Int}(h:mH s=(t,i,true))(hs:s.size=16):t.size=8:=by have:=(zlx h).2;omega
theorem XT(ae:Int)(b:ByteArray)(a:Nat)(hb:b.size<=1099511627776)(ha:a<=b.size)(hs:ae=1\/ae=2):Nb ae b a=some (xn a ae (kA ae b a)):=by
 have w0:zW zI ((b.size:Int)-(a:Int))=(b.size:Int)-a:=zi (by omega) (by omega);have w8:zW zI ((a:Int)+8)=((a+8:Nat):Int):=by rw[zi (by omega) (by omega)];omega
 have w16:zW zI ((a:Int)+16)=((a+16:Nat):Int):=by rw[zi (by omega) (by omega)];omega
 have wm:zW zI ((8:Int)*2)=16:=by decide
 unfold Nb zx3 kA dZ;rcases hs with rfl|rfl
 ·simp only[za7,decide_true,zC,wm,w0,w16,if_true,ba];split
  ·rename_i hc;rw[zT (by omega)];rfl
  ·rename_i hc;rw[zF (by omega),zD,zT (by omega),zC,zT (by omega),zC,zT (by omega),zC,zT (by omega),zC,SZ _ (by rw[zar];omega),zc];generalize hg:mH (b.extract a (a+16))=g;obtain⟨t,i,ok⟩:=g;cases ok with
   |false=>rfl
   |true=>have ht:=sw hg (Co (by omega));dsimp only;rw[ab,zD,if_pos rfl,Er ht];rfl
 ·simp only[za7,decide_false,zD,w0,w8,if_false,ba];split
  ·rename_i hc;rw[zT (by omega)];rfl
  ·rename_i hc;rw[zF (by omega),zD,zT (by omega),zC,zT (by omega),zC,zT (by omega),zC,zT (by omega),zC,Er (Co (by omega))];rfl
theorem zl8{ae:Int}{b:ByteArray}{a x:Nat}(hs:ae=1\/ae=2)(h:kA ae b a= .inr x):x<18446744073709551616/\a+dZ ae<=b.size:=by
 unfold kA dZ at h;unfold dZ;rcases hs with rfl|rfl
 ·simp only[if_true] at h⊢;split at h
  ·cases h
  ·split at h
   case isFalse=>cases h
   rename_i hc ho;injection h with h
   generalize hg:mH (b.extract a (a+16))=g at h ho;obtain⟨t,i,ok⟩:=g;dsimp only at h ho;subst ho;have ht:=sw hg (Co (by omega));rw[<-h];exact⟨(MK (by rw[zf];exact ht) λy hy=>ii hy).2,by omega⟩
 ·simp only[za7,if_false] at h⊢;split at h
  ·cases h
  ·injection h with h
   rw[<-h];exact⟨(MK (by rw[zf];exact Co (by omega)) λy hy=>ii hy).2,by omega⟩
def wq(e:Int):Nat×Nat×Int×Int:=(0,0,0,e)
def bL(ae:Int)(b:ByteArray)(at_:Int):Nat×Nat×Int×Int:=
 if(ae=1\/ae=2)/\0<=at_/\at_<=b.size then
  match kA ae b at_.toNat with
  | .inl e=>wq e
  | .inr x=>if x<9223372036854775808 then(x,0,((at_.toNat+dZ ae:Nat):Int),0) else
    match kA ae b (at_.toNat+dZ ae) with
    | .inl e=>wq e
    | .inr y=>if y=0 then wq 8 else(x-9223372036854775808,y,((at_.toNat+dZ ae+dZ ae:Nat):Int),0)
 else wq 1
def bmR(r:Nat×Nat×Int×Int):yz×Int×Int:=(((r.1:Int),(r.2.1:Int),()),r.2.2.1,r.2.2.2)
theorem apZ{x:Nat}(hx:x<18446744073709551616):decide (aU .and .u64 (x:Int) (9223372036854775808:Int)=0)=decide (x<9223372036854775808):=by
 rw[show(9223372036854775808:Int)=((9223372036854775808:Nat):Int) from rfl,nI hx (by decide)];apply decide_eq_decide.2;have h:=zb7 x 63;rw[show(2:Nat)^63=9223372036854775808 from by decide] at h;constructor
 ·intro e;have e:x&&&9223372036854775808=0:=by omega
  have:=h.1 e;rcases Nat.lt_or_ge x 9223372036854775808 with h1|h1
  ·exact h1
  ·have h2:x.testBit 63=true:=by rw[zbP];exact zT (by omega)
   rw[h2] at this;cases this
 ·intro e;have:x.testBit 63=false:=zaZ (by rw[show(2:Nat)^63=9223372036854775808 from by decide];exact e);have:=h.2 this;omega
theorem ap0{x:Nat}(hx:x<18446744073709551616)(h:¬x<9223372036854775808):aU .andNot .u64 (x:Int) (9223372036854775808:Int)=((x-9223372036854775808:Nat):Int):=by
 rw[show(9223372036854775808:Int)=((9223372036854775808:Nat):Int) from rfl,al3 hx (by decide)];have:x&&&(18446744073709551615-9223372036854775808)=x-9223372036854775808:=by have:=Nat.and_two_pow_sub_one_eq_mod x 63;rw[show(2:Nat)^63-1=18446744073709551615-9223372036854775808 from by decide,show(2:Nat)^63=9223372036854775808 from by decide] at this;omega
 rw[this]
theorem amb(ae:Int)(b:ByteArray)(at_:Int)(hb:b.size<=1099511627776):Q5 ae b at_=some (bmR (bL ae b at_)):=by
 have hk:Q9 ae=some (decide (ae=1\/ae=2)):=by
  unfold Q9 nG;by_cases h1:ae=1
  ·rw[zT (p:=ae=1\/ae=2) (.inl h1),zT h1];rfl
  ·rw[zF h1,zD];by_cases h2:ae=2
   ·rw[zT (p:=ae=1\/ae=2) (.inr h2),zT h2]
   ·rw[zF (p:=ae=1\/ae=2) (λh=>h.elim h1 h2),zF h2]
 unfold Q5 qB bL;rw[hk,zc];by_cases h1:ae=1\/ae=2
 case neg=>rw[zF h1,if_neg (λh=>h1 h.1)];rfl
 rw[zT h1,ab,zD];by_cases h3:at_<0
 ·rw[zT h3,if_neg (λh=>by omega)];rfl
 rw[zF h3,zD];by_cases h4:(b.size:Int)<at_
 ·rw[zT h4,if_neg (λh=>by omega)];rfl
 rw[zF h4,zD,if_pos ⟨h1,by omega,by omega⟩];obtain⟨m,rfl⟩:∃m:Nat,at_=m:=⟨at_.toNat,by omega⟩
 rw[ba,XT ae b m hb (by omega) h1,zc];cases hT:kA ae b m with
 |inl e=>
  have he:¬e=0:=by
   unfold kA at hT;split at hT
   ·cases hT;decide
   ·split at hT
    ·split at hT
     ·cases hT
     ·cases hT;decide
    ·cases hT
  show(bif(!(decide (e=0))) then _ else _)=_;rw[zF he];rfl
 |inr x=>
  obtain⟨hx,dd⟩:=zl8 h1 hT;show(bif(!(decide ((0:Int)=0))) then _ else(Q7 (lO x)).bind _)=_;rw[zT rfl,ab,zD,Xi _ (Xk x) (Vr x),zc,J8 hx,apZ hx];by_cases ap:x<9223372036854775808
  ·rw[zT ap,zC];dsimp only;rw[if_pos ap];rfl
  ·rw[zF ap,zD];dsimp only[xn];rw[XT ae b (m+dZ ae) hb (by omega) h1,zc,if_neg ap];cases hU:kA ae b (m+dZ ae) with
   |inl e=>
    have he:¬e=0:=by
     unfold kA at hU;split at hU
     ·cases hU;decide
     ·split at hU
      ·split at hU
       ·cases hU
       ·cases hU;decide
      ·cases hU
    show(bif(!(decide (e=0))) then _ else _)=_;rw[zF he];rfl
   |inr y=>
    obtain⟨hy,Nz⟩:=zl8 h1 hU;rw[show xn (m+dZ ae) ae (.inr y)=(lO y,((m+dZ ae+dZ ae:Nat):Int),(0:Int)) from rfl];dsimp only;rw[zT rfl,ab,zD];by_cases hz:y=0
    ·rw[zT ((zg5 hy).2 hz),zC];rw[if_pos hz];rfl
    ·rw[zF (λh=>hz ((zg5 hy).1 h)),zD,Xi _ (Xk y) (Vr y),zc,J8 hy,ap0 hx ap];rw[if_neg hz];rfl
def gn(ae:Int)(t:ByteArray):ByteArray:=if ae=1 then z40 t else t
def wB(x:Nat):ByteArray:=strOf (lO x)
theorem uP(x:Nat):(wB x).size=8:=by unfold wB;rw[lV];rfl
theorem zlm{ae:Int}(x:Nat):(gn ae (wB x)).size=dZ ae:=by
 unfold gn dZ;split
 ·rw[zcn,uP]
 ·exact uP x
def dH(ae:Int)(h l:Nat):ByteArray×Int:=
 if(ae=1\/ae=2)/\h<9223372036854775808 then((if l=0 then gn ae (wB h) else gn ae (wB (h+9223372036854775808))++gn ae (wB l)),0) else(bs [],1)
theorem ztg:∀a b:List Int,fw (a++b)=fw a++fw b
 | [],b=>rfl
 |x::r,b=>by rw[zbM,fw,fw,ztg r b];rfl
theorem ac4(a b:ByteArray):z40 (a++b)=z40 a++z40 b:=by unfold z40;rw[oH,ztg,z7d]
theorem zt6(ae:Int)(a b:ByteArray):gn ae (a++b)=gn ae a++gn ae b:=by
 unfold gn;split
 ·exact ac4 a b
 ·rfl
theorem Xt{h l:Nat}(hh:h<dm):bQ h l 1= !decide (h<9223372036854775808):=by
 have e:bQ h l 1=h.testBit 63:=by unfold bQ;rw[if_pos (by decide)];rfl
 rw[e];rcases Nat.lt_or_ge h 9223372036854775808 with h1|h1
 ·rw[zT h1];exact zaZ (by rw[show(2:Nat)^63=9223372036854775808 from by decide];exact h1)
 ·rw[zF (by omega),zbP];have hh:h<18446744073709551616:=hh;exact zT (by omega)
theorem YO{h:Nat}(hh:h<9223372036854775808):h|||9223372036854775808=h+9223372036854775808:=by have:=zeL (i:=63) (b:=h) (by rw[show(2:Nat)^63=9223372036854775808 from by decide];exact hh) 1;rw[show(2:Nat)^63=9223372036854775808 from by decide,Nat.mul_one] at this;rw[Nat.or_comm,<-this,zeT]
theorem J7(x:ByteArray):x++bs []=x:=by apply ByteArray.ext;simp [zcC,bs]
theorem z210(ae:Int)(h l:Nat)(hh:h<dm)(hl:l<dm):Q6 ae ((h:Int),(l:Int),())=some (dH ae h l):=by
 have hk:Q9 ae=some (decide (ae=1\/ae=2)):=by
  unfold Q9 nG;by_cases h1:ae=1
  ·rw[zT (p:=ae=1\/ae=2) (.inl h1),zT h1];rfl
  ·rw[zF h1,zD];by_cases h2:ae=2
   ·rw[zT (p:=ae=1\/ae=2) (.inr h2),zT h2]
   ·rw[zF (p:=ae=1\/ae=2) (λh=>h.elim h1 h2),zF h2]
 unfold Q6 qI dH;rw[hk,zc];by_cases h1:ae=1\/ae=2
 case neg=>rw[zF h1,if_neg (λh=>h1 h.1)];rfl
 rw[zT h1,ab,zD,ap3 h l hh hl,zc,Xt hh];by_cases h2:h<9223372036854775808
 case neg=>rw[zF h2,if_neg (λh=>h2 h.2)];rfl
 rw[zT h2,ab,zD,if_pos ⟨h1,h2⟩];have hH:Q30 ((h:Int),(l:Int),())=some ((h:Int),(l:Int)):=rfl;rw[hH,zc];dsimp only;rw[zw4,zc];have z8:∀x:Nat,Nat.beq 8 (aa (lO x))=true:=λx=>rfl;have fin:∀t:ByteArray,t.size<=16->(bif decide (ae=1) then(kI t).bind λr6=>some (r6,(0:Int)) else some (t,0))=some (gn ae t,0):=λt ht=>by
  unfold gn;by_cases hs:ae=1
  ·rw[zT hs,zC,S0 t (by omega),if_pos hs];rfl
  ·rw[zF hs,if_neg hs];rfl
 by_cases hz:l=0
 ·rw[zT ((zg5 hl).2 hz),if_pos hz,ab,zD,zw4,zc,z8,zC];have dd:(strOf (lO h)).size=8:=uP h;rw[zT (by rw[dd];decide),zC,J7];exact fin (wB h) (by rw[uP];decide)
 ·have hor:aU .or .u64 (h:Int) (9223372036854775808:Int)=((h+9223372036854775808:Nat):Int):=by rw[show(9223372036854775808:Int)=((9223372036854775808:Nat):Int) from rfl,AO hh (by decide),YO h2]
  rw[zF (λe=>hz ((zg5 hl).1 e)),if_neg hz,GW,zC,z8,zC,hor,zw4,zc,z8,zC];have dd:∀x,(strOf (lO x)).size=8:=λx=>uP x;rw[zT (by rw[dd,dd];decide),zC,<-zt6];exact fin (wB _++wB l) (by rw[xG,uP,uP];decide)
theorem apB(b:ByteArray){a:Nat}{ae:Int}(h:a+dZ ae<=b.size):(b.extract a (a+dZ ae)).size=dZ ae:=Co h
theorem TL{ae:Int}{b:ByteArray}{a v:Nat}(hs:ae=1\/ae=2)(h:kA ae b a= .inr v):gn ae (wB v)=b.extract a (a+dZ ae)/\v<18446744073709551616/\a+dZ ae<=b.size:=by
 obtain⟨h1,h2⟩:=zl8 hs h;refine⟨?_,h1,h2⟩;have hz:=apB b h2;unfold kA at h;rw[if_neg (by omega)] at h;unfold gn wB;rcases hs with rfl|rfl
 ·rw[if_pos rfl] at h⊢;split at h
  case isFalse=>cases h
  rename_i ho;generalize hg:mH (b.extract a (a+dZ 1))=g at h ho;obtain⟨t,i,ok⟩:=g;dsimp only at h ho;subst ho;injection h with h
  have ht:=sw hg hz;obtain⟨e1,_⟩:=MK (l:=bl t) (by rw[zf];exact ht) λy hy=>ii hy;rw[<-h,e1,Cq,(zlx hg).1]
 ·rw[if_neg (by decide)] at h⊢;injection h with h
  obtain⟨e1,_⟩:=MK (l:=bl (b.extract a (a+dZ 2))) (by rw[zf];exact hz) λy hy=>ii hy;rw[<-h,e1,Cq]
theorem zw3{ae:Int}{h l:Nat}(hs:ae=1\/ae=2)(hh:h<9223372036854775808):dH ae h l=((if l=0 then gn ae (wB h) else gn ae (wB (h+9223372036854775808))++gn ae (wB l)),0):=by unfold dH;rw[if_pos ⟨hs,hh⟩]
theorem amc{ae z:Int}{b:ByteArray}{a h l:Nat}(hg:bL ae b a=(h,l,z,0)):(ae=1\/ae=2)/\h<9223372036854775808/\l<18446744073709551616/\(a:Int)<=z/\z<=b.size/\(dH ae h l).1=b.extract a z.toNat:=by
 unfold bL at hg;split at hg
 case isFalse=>cases hg
 rename_i hc;obtain⟨hs,h0,h1⟩:=hc;rw[ba] at hg;cases hT:kA ae b a with
 |inl e=>
  exfalso;rw[hT] at hg;have he:e=0:=by have:=congrArg (λr:Nat×Nat×Int×Int=>r.2.2.2) hg;exact this
  subst he;unfold kA at hT;split at hT
  ·cases hT
  ·split at hT
   ·split at hT<;>cases hT
   ·cases hT
 |inr x=>
  rw[hT] at hg;obtain⟨e1,e2,e3⟩:=TL hs hT;dsimp only at hg;split at hg
  ·rename_i ap;injection hg with g1 g2
   injection g2 with g2 g3
   injection g3 with g3 _
   subst g1 g2 g3;refine⟨hs,ap,by decide,by omega,by omega,?_⟩;rw[zw3 hs ap,if_pos rfl,e1,ba]
  ·rename_i hge;cases hU:kA ae b (a+dZ ae) with
   |inl e=>
    exfalso;rw[hU] at hg;have he:e=0:=by have:=congrArg (λr:Nat×Nat×Int×Int=>r.2.2.2) hg;exact this
    subst he;unfold kA at hU;split at hU
    ·cases hU
    ·split at hU
     ·split at hU<;>cases hU
     ·cases hU
   |inr y=>
    rw[hU] at hg;obtain⟨f1,f2,f3⟩:=TL hs hU;dsimp only at hg;split at hg
    ·exfalso;have:=congrArg (λr:Nat×Nat×Int×Int=>r.2.2.2) hg;cases this
    ·rename_i hz;injection hg with g1 g2
     injection g2 with g2 g3
     injection g3 with g3 _
     subst g1 g2 g3;refine⟨hs,by omega,f2,by omega,by omega,?_⟩;rw[zw3 hs (by omega),if_neg hz,show x-9223372036854775808+9223372036854775808=x by omega,e1,f1,ba];exact Xn _ (by omega) (by omega)
end bz

set_option maxRecDepth 10000
namespace bz
open Go.IntKind renaming wrap->zW,i64->zI,u8->zU
open Go Go.Ref
@[irreducible] def pL (x base m:Nat):List Int:=((zaJ m).filter λk=>x.testBit (63-k)).map λk=>((base+k:Nat):Int)
theorem apS(x base m:Nat):pL x base (m+1)=if x.testBit (63-m)=true then pL x base m++ [((base+m:Nat):Int)] else pL x base m:=by
 unfold pL;rw[List.range_succ,zcA,zaY];split
 ·rename_i h;rw[zfQ (by exact h)];rfl
 ·rename_i h;rw[zdX (by exact h)];simp
theorem LO(x base m:Nat):(pL x base m).length<=m:=by unfold pL;rw[zaR];exact Nat.le_trans (zcD _ _) (by rw[zfG];exact zag _)
theorem zt4(h l:Nat):elems h l=pL h 1 64++pL l 65 64:=by
 unfold elems og pL;rw[List.filter_map,show(128:Nat)=64+64 from rfl,List.range_add,zcA,zaY,List.filter_map,zcz];congr 1
 ·have:(zaJ 64).filter (bQ h l∘λk:Nat=>((k+1:Nat):Int))=(zaJ 64).filter λk=>h.testBit (63-k):=zcL λk hk=>by have hk:=zao.1 hk;show bQ h l ((k+1:Nat):Int)=_;unfold bQ;rw[if_pos (by omega),show(64-((k+1:Nat):Int)).toNat=63-k by omega]
  rw[this];apply zbD;intro k _;rw[zeT]
 ·have:(zaJ 64).filter ((bQ h l∘λk:Nat=>((k+1:Nat):Int))∘λk=>64+k)=(zaJ 64).filter λk=>l.testBit (63-k):=zcL λk hk=>by have hk:=zao.1 hk;show bQ h l ((64+k+1:Nat):Int)=_;unfold bQ;rw[if_neg (by omega),if_pos (by omega),show(128-((64+k+1:Nat):Int)).toNat=63-k by omega]
  rw[this];apply zbD;intro k _;show((64+k+1:Nat):Int)=_;rw[show 64+k+1=65+k by omega]
def GX(k:Nat):Nat:=if k<8 then 2^(7-k) else 0
theorem QM:∀c:Fin 256,∀k:Fin 8,(GX k.1=2^(7-k.1))/\(decide ((GX k.1:Int)<=((c.1 % 2^(8-k.1):Nat):Int))=c.1.testBit (7-k.1))/\(c.1.testBit (7-k.1)=true->zW zU (((c.1 % 2^(8-k.1):Nat):Int)-(GX k.1:Int))=((c.1 % 2^(8-(k.1+1)):Nat):Int))/\(c.1.testBit (7-k.1)=false->c.1 % 2^(8-k.1)=c.1 % 2^(8-(k.1+1)))/\zW zU (Int.tdiv (GX k.1:Int) 2)=(GX (k.1+1):Int):=by decide+kernel
theorem Vs(x i k:Nat)(hi:i<8)(hk:k<8):(x/2^(56-8*i)% 256).testBit (7-k)=x.testBit (63-(8*i+k)):=by rw[show(256:Nat)=2^8 from rfl,zcW,zT (by omega),zbC,Nat.testBit_div_two_pow];congr 1;omega
theorem XL(x:Nat)(t:ByteArray)(base i:Nat)(hi:i<8)(lf:base<=65):∀(m k K:Nat),k+m=8->m<K->
 M6 K (base:Int) t (pL x base (8*i+k)) (i:Int) ((x/2^(56-8*i)% 256 % 2^(8-k):Nat):Int) (GX k:Int) (k:Int)=some ((base:Int),t,pL x base (8*i+8),(i:Int))
 |m,k,0,_,hK=>by omega
 |0,k,K+1,hk,hK=>by
  have:k=8:=by omega
  subst this;unfold M6 zkk;rw[zF (by omega)];rfl
 |m+1,k,K+1,hk,hK=>by
  have hk8:k<8:=by omega
  have hc:x/2^(56-8*i)% 256<256:=Nat.mod_lt _ (by decide);obtain⟨b1,b2,b3,b4,b5⟩:=QM ⟨_,hc⟩ ⟨k,hk8⟩;simp only at b1 b2 b3 b4 b5;have ih:=XL x t base i hi lf m (k+1) K (by omega) (by omega);have hl:=LO x base (8*i+k);have e1:zW zI ((8:Int)*(i:Int))=((8*i:Nat):Int):=by rw[zi (by omega) (by omega)];omega
  have e2:zW zI ((base:Int)+((8*i:Nat):Int))=((base+8*i:Nat):Int):=by rw[zi (by omega) (by omega)];omega
  have e3:zW zI (((base+8*i:Nat):Int)+(k:Int))=((base+(8*i+k):Nat):Int):=by rw[zi (by omega) (by omega)];omega
  unfold M6 zkk;rw[zT (by omega),zC,b2,e1,e2,e3,b5,zq (by omega),Vs x i k hi hk8];have ps:=apS x base (8*i+k);rw[zdP] at ps;have Gf:=Vs x i k hi hk8;cases hb:x.testBit (63-(8*i+k)) with
  |true=>rw[hb] at ps Gf;rw[if_pos rfl] at ps;rw[zC,zT (by simp only[By];omega),zC,b3 Gf];dsimp only;rw[<-ps];exact ih
  |false=>rw[hb] at ps Gf;rw[if_neg (by decide)] at ps;rw[zD,b4 Gf];dsimp only;rw[<-ps];exact ih
theorem V9(x:Nat)(t:ByteArray)(ht:t.size=8)(dp:∀i,i<8->ze t i=((x/2^(56-8*i)% 256:Nat):Int))(base:Nat)(lf:base<=65):∀(m i K:Nat),i+m=8->m<K->
 FI K (base:Int) t (pL x base (8*i)) (i:Int)=some (pL x base 64)
 |m,i,0,_,hK=>by omega
 |0,i,K+1,hi,hK=>by
  have:i=8:=by omega
  subst this;unfold FI zkj;rw[zF (by omega)];rfl
 |m+1,i,K+1,hi,hK=>by have h1:=XL x t base i (by omega) lf 8 0 af (by omega) (by rw[zo];omega);have e0:x/2^(56-8*i)% 256 % 2^(8-0)=x/2^(56-8*i)% 256:=Nat.mod_mod _ _;rw[e0,show(GX 0:Int)=128 from rfl,Nat.add_zero] at h1;unfold FI zkj;rw[zT (by omega),zC,zh (by omega),ba,dp i (by omega)];dsimp only;rw[show(0:Int)=((0:Nat):Int) from rfl,h1,zc];unfold BH;dsimp only;rw[zq (by omega)];exact V9 x t ht dp base lf m (i+1) K (by omega) (by omega)
theorem apn{t:ByteArray}(ht:t.size=8):∀i,i<8->ze t i=((gY (bl t)/2^(56-8*i)% 256:Nat):Int):=by
 intro i hi;have hl:(bl t).length=8:=by rw[zf];exact ht
 have h:=(MK hl λy hy=>ii hy).1;have e:(bl t).getD i 0=(lO (gY (bl t))).getD i 0:=congrArg (λl=>an l i 0) h.symm;rw[lW,e];generalize gY (bl t)=v
 match i,hi with
 |0,_=>rfl
 |1,_=>rfl
 |2,_=>rfl
 |3,_=>rfl
 |4,_=>rfl
 |5,_=>rfl
 |6,_=>rfl
 |7,_=>show((v % 256:Nat):Int)=((v/1 % 256:Nat):Int);rw[Nat.div_one]
def E3(base:Nat):Sum Int Nat->List Int×Int
 | .inl e=>([],e)
 | .inr x=>(pL x base 64,0)
theorem XK(ae:Int)(b:ByteArray)(a base:Nat)(hb:b.size<=1099511627776)(ha:a<=b.size)(hs:ae=1\/ae=2)(lf:base<=65):qN ae b a base=some (E3 base (kA ae b a)):=by
 have w0:zW zI ((b.size:Int)-(a:Int))=(b.size:Int)-a:=zi (by omega) (by omega);have w8:zW zI ((a:Int)+8)=((a+8:Nat):Int):=by rw[zi (by omega) (by omega)];omega
 have w16:zW zI ((a:Int)+16)=((a+16:Nat):Int):=by rw[zi (by omega) (by omega)];omega
 have go:∀t:ByteArray,t.size=8->((FI af (base:Int) t [] 0).bind λe=>BG e (λa0 a1=>some (a0,a1)))=some (pL (gY (bl t)) base 64,0):=λt ht=>by have:=V9 (gY (bl t)) t ht (apn ht) base lf 8 0 af (by omega) (by rw[zo];omega);rw[show pL (gY (bl t)) base (8*0)=[] from by unfold pL;rfl,show((0:Nat):Int)=0 from rfl] at this;rw[this];rfl
 unfold qN ON kA dZ;rcases hs with rfl|rfl
 ·simp only[za7,decide_true,zC,w0,w16,if_true,ba];split
  ·rename_i hc;rw[zT (by omega)];rfl
  ·rename_i hc;rw[zF (by omega),zD,zT (by omega),zC,zT (by omega),zC,zT (by omega),zC,zT (by omega),zC,Va _ (by rw[zar];omega),zc];generalize hg:mH (b.extract a (a+16))=g;obtain⟨t,i,ok⟩:=g;cases ok with
   |false=>rfl
   |true=>have ht:=sw hg (Co (by omega));dsimp only;rw[ab,zD,if_pos rfl,go t ht];rfl
 ·simp only[za7,decide_false,zD,w0,w8,if_false,ba];split
  ·rename_i hc;rw[zT (by omega)];rfl
  ·rename_i hc;rw[zF (by omega),zD,zT (by omega),zC,zT (by omega),zC,zT (by omega),zC,zT (by omega),zC,go _ (Co (by omega))];rfl
theorem zsj{ae e:Int}{b:ByteArray}{a:Nat}(h:kA ae b a= .inl e):e≠0:=by
 unfold kA at h;split at h
 ·cases h;decide
 ·split at h
  ·split at h
   ·cases h
   ·cases h;decide
  ·cases h
theorem XI(base m:Nat):pL 0 base m=[]:=by unfold pL;rw[zfX.2 (λk _=>by simp)];rfl
theorem XH(x:Nat)(hx:x<18446744073709551616):(x<9223372036854775808->∀y∈pL x 1 64,y≠1)/\(¬x<9223372036854775808->pL x 1 64=1::pL (x-9223372036854775808) 1 64):=by
 refine⟨λh y hy e=> ?_,λh=> ?_⟩
 ·unfold pL at hy;obtain⟨k,hk,rfl⟩:=zau.1 hy;obtain⟨h1,h2⟩:=zab.1 hk;have:k=0:=by omega
  subst this;have:x.testBit 63=false:=zaZ (by rw[show(2:Nat)^63=9223372036854775808 from by decide];exact h);rw[Nat.sub_zero,this] at h2;cases h2
 ·have hm:x-9223372036854775808=x % 2^63:=by rw[show(2:Nat)^63=9223372036854775808 from by decide];omega
  have t1:x.testBit 63=true:=by rw[zbP];exact zT (by omega)
  have t2:(x % 2^63).testBit 63=false:=by rw[zcW];rfl
  rw[hm];unfold pL;rw[show(64:Nat)=63+1 from rfl,List.range_succ_eq_map,zfQ (by exact t1),zdX (by rw[Nat.sub_zero,t2];decide),zaq];have hf:List.filter (λk=>x.testBit (63-k)) ((zaJ 63).map Nat.succ)=List.filter (λk=>(x % 2^63).testBit (63-k)) ((zaJ 63).map Nat.succ):=by apply zcL;intro k hk;obtain⟨j,hj,rfl⟩:=zau.1 hk;have hj:=zao.1 hj;rw[zcW,zT (by omega),zbC]
  rw[hf];rfl
theorem wo{α:Type}{p:Prop}[Decidable p](h:p){x y:α}:(bif decide p then x else y)=x:=by rw[zT h];rfl
theorem wl{α:Type}{p:Prop}[Decidable p](h:¬p){x y:α}:(bif decide p then x else y)=y:=by rw[zF h];rfl
theorem M8{α:Type}{p:Prop}[Decidable p](h:p){x y:α}:(bif !decide p then x else y)=y:=by rw[zT h];rfl
theorem OY{α:Type}{p:Prop}[Decidable p](h:¬p){x y:α}:(bif !decide p then x else y)=x:=by rw[zF h];rfl
def fZ(r:Nat×Nat×Int×Int):List Int×Int×Int:=if r.2.2.2=0 then(elems r.1 r.2.1,r.2.2.1,0) else([],0,r.2.2.2)
theorem VG(h l:Nat)(z:Int):fZ (h,l,z,0)=(elems h l,z,0):=by unfold fZ;simp only[if_true]
theorem zlu{e:Int}(he:e≠0):fZ (wq e)=([],0,e):=by unfold fZ wq;simp only[he,if_false]
def xN(P2:Option (List Int×Int))(z1 z2:Int)(r1:List Int×Int):Option (List Int×Int×Int):=(bif(!(decide (r1.2=(0:Int)))) then some (([]:List Int),(0:Int),r1.2) else(bif(decide (((aa r1.1):Int)=(0:Int))) then some (r1.1,z1,(0:Int)) else(zd (0:Int) (aa r1.1) (bif(!(decide ((an r1.1 ((0:Int)).toNat (0:Int))=(1:Int)))) then some (r1.1,z1,(0:Int)) else(P2.bind λr2=>(bif(!(decide (r2.2=(0:Int)))) then some (([]:List Int),(0:Int),r2.2) else(bif(decide (((aa r2.1):Int)=(0:Int))) then some (([]:List Int),(0:Int),(8:Int)) else(bif(decide ((1:Int)<=(((aa r1.1):Nat):Int))) then(bif(decide (((aa ([]:List Int))+(aa (zac ((1:Int)).toNat (It (aa r1.1) r1.1))))*8<=140737488355328)) then(bif(decide (((aa (([]:List Int)++(zac ((1:Int)).toNat (It (aa r1.1) r1.1))))+(aa r2.1))*8<=140737488355328)) then some (((([]:List Int)++(zac ((1:Int)).toNat (It (aa r1.1) r1.1)))++r2.1),z2,(0:Int)) else none) else none) else none))))))))
theorem z233{P2:Option (List Int×Int)}{z1 z2 e:Int}(he:e≠0):xN P2 z1 z2 ([],e)=some ([],0,e):=OY he
theorem afG{P2:Option (List Int×Int)}{z1 z2:Int}{l:List Int}(h:∀y∈l,y≠1):xN P2 z1 z2 (l,0)=some (l,z1,0):=by
 refine(M8 (p:=(0:Int)=0) rfl).trans ?_;cases l with
 |nil=>rfl
 |cons y r=>refine(wl (by simp only[ls];omega)).trans ?_;refine(show zd (0:Int) (r.length+1) _=_ from zh (j:=0) (by omega)).trans ?_;exact OY (h y IS)
theorem zty{r2:List Int×Int}{z1 z2:Int}{l:List Int}:xN (some r2) z1 z2 (1::l,0)=bif(!(decide (r2.2=(0:Int)))) then some (([]:List Int),(0:Int),r2.2) else bif decide (((aa r2.1):Int)=(0:Int)) then some (([]:List Int),(0:Int),(8:Int)) else(bif(decide ((1:Int)<=(((aa ((1:Int)::l)):Nat):Int))) then(bif(decide (((aa ([]:List Int))+(aa (zac ((1:Int)).toNat (It (aa ((1:Int)::l)) ((1:Int)::l)))))*8<=140737488355328)) then(bif(decide (((aa (([]:List Int)++(zac ((1:Int)).toNat (It (aa ((1:Int)::l)) ((1:Int)::l)))))+(aa r2.1))*8<=140737488355328)) then some (((([]:List Int)++(zac ((1:Int)).toNat (It (aa ((1:Int)::l)) ((1:Int)::l))))++r2.1),z2,(0:Int)) else none) else none) else none):=by refine(M8 (p:=(0:Int)=0) rfl).trans ?_;refine(wl (by simp only[ls];omega)).trans ?_;refine(show zd (0:Int) (l.length+1) _=_ from zh (j:=0) (by omega)).trans ?_;exact M8 (p:=(1:Int)=1) rfl
theorem ajy{z1 z2 e:Int}{l:List Int}(he:e≠0):xN (some ([],e)) z1 z2 (1::l,0)=some ([],0,e):=zty.trans (OY he)
theorem ajz{z1 z2:Int}{l:List Int}:xN (some ([],0)) z1 z2 (1::l,0)=some ([],0,8):=zty.trans rfl
theorem ajx{z1 z2:Int}{l l2:List Int}(h:l2≠ [])(h1:l.length<=64)(h2:l2.length<=64):xN (some (l2,0)) z1 z2 (1::l,0)=some (l++l2,z2,0):=by have hlen:l2.length≠0:=λe=>h (zdU.1 e);refine zty.trans ?_;refine(M8 (p:=(0:Int)=0) rfl).trans ?_;refine(wl (by dsimp only;omega)).trans ?_;refine(wo (by simp only[ls];omega)).trans ?_;have Rd:zac ((1:Int)).toNat ((1:Int)::l)=l:=rfl;simp only[zaH,Rd,zah];refine(wo (by simp only[zav];omega)).trans ?_;exact wo (by omega)
theorem apR{y:Nat}(hy:y<18446744073709551616)(hz:y≠0):pL y 65 64≠ []:=λe=>hz (by
 have:(∀i,y.testBit i=false):=λi=>by
  by_cases hi:i<64
  ·cases lH:y.testBit i with
   |false=>rfl
   |true=>
    have:((65+(63-i):Nat):Int)∈pL y 65 64:=by unfold pL;exact zau.2 ⟨63-i,zab.2 ⟨zao.2 (by omega),by rw[show 63-(63-i)=i by omega];exact lH⟩,rfl⟩
    rw[e] at this;cases this
  ·exact zaZ (Nat.lt_of_lt_of_le hy (by rw[show(18446744073709551616:Nat)=2^64 from by decide];exact zaI (by decide) (by omega)))
 exact Nat.eq_of_testBit_eq λi=>by rw[this i,Nat.zero_testBit])
theorem YM(ae:Int)(b:ByteArray)(hb:b.size<=1099511627776)(m:Nat)(hm:m<=b.size)(hs:ae=1\/ae=2):((qN ae b m (1:Int)).bind λr1=>xN (qN ae b ((m+dZ ae:Nat):Int) (65:Int)) ((m+dZ ae:Nat):Int) ((m+dZ ae+dZ ae:Nat):Int) r1)=some (fZ (match kA ae b m with
 | .inl e=>wq e
 | .inr x=>if x<9223372036854775808 then(x,0,((m+dZ ae:Nat):Int),0) else
   match kA ae b (m+dZ ae) with
   | .inl e=>wq e
   | .inr y=>if y=0 then wq 8 else(x-9223372036854775808,y,((m+dZ ae+dZ ae:Nat):Int),0))):=by
 have p1:=XK ae b m 1 hb hm hs (by decide);rw[show((1:Nat):Int)=1 from rfl] at p1;refine(congrArg (λz=>zee z _) p1).trans ?_;cases hT:kA ae b m with
 |inl e=>exact(z233 (zsj hT)).trans (congrArg some (zlu (zsj hT)).symm)
 |inr x=>
  obtain⟨hx,tN⟩:=zl8 hs hT;by_cases ap:x<9223372036854775808
  ·simp only[ap,if_true];have fD:elems x 0=pL x 1 64:=by rw[zt4,XI,zay]
   exact(afG ((XH x hx).1 ap)).trans (congrArg some (by rw[VG,fD]))
  ·simp only[ap,if_false];have ph:=(XH x hx).2 ap;have p2:=XK ae b (m+dZ ae) 65 hb (by omega) hs (by decide);rw[show((65:Nat):Int)=65 from rfl] at p2;have fD:=zt4 (x-9223372036854775808);have pJ:=LO (x-9223372036854775808) 1 64;generalize x-9223372036854775808=x' at ph fD pJ;refine(congrArg (λz=>xN z _ _ _) p2).trans ?_;refine(congrArg (λz=>xN _ _ _ (z,0)) ph).trans ?_;cases hU:kA ae b (m+dZ ae) with
   |inl e=>exact(ajy (zsj hU)).trans (congrArg some (zlu (zsj hU)).symm)
   |inr y=>
    obtain⟨hy,tO⟩:=zl8 hs hU;by_cases hz:y=0
    ·simp only[hz,if_true];have e0:E3 65 (.inr 0)=([],0):=by show(pL 0 65 64,(0:Int))=_;rw[XI]
     refine(congrArg (λz=>xN (some z) _ _ _) e0).trans ?_;exact ajz.trans (congrArg some (zlu (by decide)).symm)
    ·simp only[hz,if_false];exact(ajx (apR hy hz) pJ (LO y 65 64)).trans (congrArg some (by rw[VG,fD]))
theorem ajA(ae:Int)(b:ByteArray)(at_:Int)(hb:b.size<=1099511627776):yN ae b at_=some (fZ (bL ae b at_)):=by
 unfold yN Bw bL;by_cases h0:at_<0
 ·rw[zT h0,if_neg (λh=>by omega)];by_cases h1:ae=1<;>by_cases h2:ae=2<;>simp [h1,h2,fZ,wq]
 by_cases h9:(b.size:Int)<at_
 ·rw[zF h0,zT h9,if_neg (λh=>by omega)];by_cases h1:ae=1<;>by_cases h2:ae=2<;>simp [h1,h2,fZ,wq]
 obtain⟨m,rfl⟩:∃m:Nat,at_=m:=⟨at_.toNat,by omega⟩
 rw[zF h0,zF h9];have wr:∀z:Nat,z<=64->zW zI ((m:Int)+(z:Int))=((m+z:Nat):Int):=λz hz=>by rw[zi (by omega) (by omega)];omega
 by_cases h1:ae=1
 ·rw[zT h1,if_pos ⟨.inl h1,by omega,by omega⟩,ba];have hz:dZ ae=16:=by rw[h1];rfl
  have:=YM ae b hb m (by omega) (.inl h1);rw[show m+dZ ae+dZ ae=m+32 by omega,hz,<-wr 16 (by decide),<-wr 32 (by decide)] at this;rw[show m+dZ ae+dZ ae=m+32 by omega,hz,<-wr 16 (by decide),<-wr 32 (by decide)];exact this
 ·by_cases h2:ae=2
  ·rw[zF h1,zT h2,if_pos ⟨.inr h2,by omega,by omega⟩,ba];have hz:dZ ae=8:=by rw[h2];rfl
   have:=YM ae b hb m (by omega) (.inr h2);rw[show m+dZ ae+dZ ae=m+16 by omega,hz,<-wr 8 (by decide),<-wr 16 (by decide)] at this;rw[show m+dZ ae+dZ ae=m+16 by omega,hz,<-wr 8 (by decide),<-wr 16 (by decide)];exact this
  ·rw[zF h1,zF h2,if_neg (λh=>h.1.elim h1 h2)];rfl
theorem U6(l:List Int)(base a:Nat):∀b,bT l base (a+b)=bT l base a*2^b+bT l (base+a) b
 |0=>by simp [bT]
 |b+1=>by rw[<-zdP,zgo,zgo,U6 l base a b,zdL,show base+(a+b)+1=base+a+b+1 by omega];generalize(if((base+a+b+1:Nat):Int)∈l then 1 else 0)=e;rw[<-Nat.mul_assoc];omega
def fo(l:List Int)(base n:Nat):List Int:=(zaJ n).map λj=>((bT l (base+8*j) 8:Nat):Int)
theorem Tq(l:List Int)(base n:Nat):fo l base (n+1)=fo l base n++ [((bT l (base+8*n) 8:Nat):Int)]:=by unfold fo;rw[List.range_succ,zaY];rfl
theorem U5(l:List Int)(base:Nat):∀n,ou 0 (fo l base n)=bT l base (8*n)
 |0=>rfl
 |n+1=>by rw[Tq,U1,U5 l base n,ba,show 8*(n+1)=8*n+8 by omega,U6]
theorem ajq(l:List Int)(base:Nat):fo l base 8=lO (bT l base 64):=by
 have h:=(MK (l:=fo l base 8) (by unfold fo;rw[zaR,zfG]) λy hy=>by unfold fo at hy;obtain⟨j,_,rfl⟩:=zau.1 hy;have:=Zu l (base+8*j) 8;unfold zn;omega).1
 rw[<-h];congr 1;exact U5 l base 8
theorem SG(l:List Int)(hl:l.length<=maxLen)(base i:Nat)(hi:i<8)(hb:base<=64)(t:List Int):∀(m k K:Nat),k+m=8->m<K->
 M5 K l ((base+1:Nat):Int) t (i:Int) ((bT l (base+8*i) k:Nat):Int) (k:Int)=some (l,((base+1:Nat):Int),t,(i:Int),((bT l (base+8*i) 8:Nat):Int))
 |m,k,0,_,hK=>by omega
 |0,k,K+1,hk,hK=>by
  have:k=8:=by omega
  subst this;unfold M5 zki;rw[zF (by omega)];rfl
 |m+1,k,K+1,hk,hK=>by
  have ih:=SG l hl base i hi hb t m (k+1) K (by omega) (by omega);have e1:zW zI ((8:Int)*(i:Int))=((8*i:Nat):Int):=by rw[zi (by omega) (by omega)];omega
  have e2:zW zI (((base+1:Nat):Int)+((8*i:Nat):Int))=((base+1+8*i:Nat):Int):=by rw[zi (by omega) (by omega)];omega
  have e3:zW zI (((base+1+8*i:Nat):Int)+(k:Int))=((base+8*i+k+1:Nat):Int):=by rw[zi (by omega) (by omega)];omega
  have hw:=Zu l (base+8*i) k;have hp:2^k<=2^7:=zaI (by decide) (by omega);rw[show(2:Nat)^7=128 from rfl] at hp;have hs:=zgo l (base+8*i) k;have u1:zW zU (((bT l (base+8*i) k:Nat):Int)*2)=((2*bT l (base+8*i) k:Nat):Int):=by rw[show((bT l (base+8*i) k:Nat):Int)*2=((2*bT l (base+8*i) k:Nat):Int) by omega,LU,Nat.mod_eq_of_lt (by omega)]
  have u2:zW zU (((2*bT l (base+8*i) k:Nat):Int)+1)=((2*bT l (base+8*i) k+1:Nat):Int):=by rw[show((2*bT l (base+8*i) k:Nat):Int)+1=((2*bT l (base+8*i) k+1:Nat):Int) by omega,LU,Nat.mod_eq_of_lt (by omega)]
  unfold M5 zki;rw[zT (by omega),zC,e1,e2,e3,zmu l _ hl,zc,u1,u2,zq (by omega)];by_cases hm:((base+8*i+k+1:Nat):Int)∈l
  ·rw[if_pos hm] at hs;rw[zT hm,zC,<-hs];exact ih
  ·rw[if_neg hm] at hs;replace hs:bT l (base+8*i) (k+1)=2*bT l (base+8*i) k:=hs;rw[zF hm,zD,<-hs];exact ih
theorem zsz(l:List Int)(hl:l.length<=maxLen)(base:Nat)(hb:base<=64):∀(m i K:Nat),i+m=8->m<K->
 M4 K l ((base+1:Nat):Int) (fo l base i) (i:Int)=some (fo l base 8)
 |m,i,0,_,hK=>by omega
 |0,i,K+1,hi,hK=>by
  have:i=8:=by omega
  subst this;unfold M4 zkh;rw[zF (by omega)];rfl
 |m+1,i,K+1,hi,hK=>by
  have h1:=SG l hl base i (by omega) hb (fo l base i) 8 0 af (by omega) (by rw[zo];omega);rw[show bT l (base+8*i) 0=0 from rfl,show((0:Nat):Int)=0 from rfl] at h1;have hlen:(fo l base i).length=i:=by unfold fo;rw[zaR,zfG]
  unfold M4 zkh;rw[zT (by omega),zC];dsimp only;rw[h1,zc];unfold BD;dsimp only;rw[zT (by rw[hlen,By];omega),zC,zq (by omega),<-Tq];exact zsz l hl base hb m (i+1) K (by omega) (by omega)
theorem zg6(l:List Int)(hl:l.length<=maxLen)(base:Nat)(hb:base<=64):xR l ((base+1:Nat):Int)=some (wB (bT l base 64)):=by unfold xR BC;have:=zsz l hl base hb 8 0 af (by omega) (by rw[zo];omega);rw[show fo l base 0=[] from rfl,show((0:Nat):Int)=0 from rfl,ajq] at this;dsimp only;rw[this];rfl
theorem LM(ae:Int)(l:List Int)(hl:l.length<=maxLen):∀(m j K:Nat) (t:Bool),j+m=129->m<K->∃r:Bool,FH K ae l t (j:Int)=some (ae,l,r)/\(r=true↔t=true\/∃n:Nat,j<=n/\n<=128/\(n:Int)∈l)
 |m,j,0,t,_,hK=>by omega
 |0,j,K+1,t,hj,hK=>by refine⟨t,?_,⟨λh=> .inl h,λh=>h.elim id λ⟨n,h1,h2,_⟩=>by omega⟩⟩;unfold FH zkf;rw[zF (by omega)];rfl
 |m+1,j,K+1,t,hj,hK=>by
  unfold FH zkf;rw[zT (by omega),zC,zq (by omega),zmu l _ hl,zc];cases t with
  |true=>obtain⟨r,h1,h2⟩:=LM ae l hl m (j+1) K true (by omega) (by omega);exact⟨r,h1,⟨λ_=> .inl rfl,λ_=>h2.2 (.inl rfl)⟩⟩
  |false=>
   obtain⟨r,h1,h2⟩:=LM ae l hl m (j+1) K (decide ((j:Int)∈l)) (by omega) (by omega);refine⟨r,h1,h2.trans ⟨λh=> .inr ?_,λh=> ?_⟩⟩
   ·rcases h with h|⟨n,n1,n2,n3⟩
    ·exact⟨j,zag _,by omega,of_decide_eq_true h⟩
    ·exact⟨n,by omega,n2,n3⟩
   ·rcases h with h|⟨n,n1,n2,n3⟩
    ·cases h
    ·by_cases e:n=j
     ·subst e;exact .inl (zT n3)
     ·exact .inr ⟨n,by omega,n2,n3⟩
theorem ai1(l:List Int):cK l=0↔¬∃n:Nat,65<=n/\n<=128/\(n:Int)∈l:=by
 have kr:∀n:Nat,65<=n->n<=128->bQ (cE l) 0 (n:Int)=false:=λn h1 h2=>by unfold bQ;rw[if_neg (by omega),if_pos (by omega),Nat.zero_testBit]
 constructor
 ·rintro h ⟨n,n1,n2,n3⟩;have:=yr l n;rw[h,kr n n1 n2,zT n3] at this;unfold jh at this;rw[zT (by omega)] at this;cases this
 ·intro h;refine(zss (oK l) (pZ l) (oK l) (by decide:(0:Nat)<dm) λn n1 n2=> ?_).2;by_cases h64:n<=64
  ·unfold bQ;rw[if_pos ⟨n1,h64⟩,if_pos ⟨n1,h64⟩]
  ·obtain⟨m,rfl⟩:∃m:Nat,n=m:=⟨n.toNat,by omega⟩
   rw[kr m (by omega) (by omega),yr,zF (λhm=>h ⟨m,by omega,by omega,hm⟩)];rfl
theorem arn(l:List Int):decide ((1:Int)∈l)= !decide (cE l<9223372036854775808):=by rw[<-Xt (l:=cK l) (oK l),yr];unfold jh;rw[zT (p:=(1:Int)<=1/\(1:Int)<=128) (by decide),Bool.and_true]
theorem amW(l:List Int)(h:cE l<9223372036854775808):cE (1::l)=cE l+9223372036854775808:=by
 rw[<-YO h];have ap:cE l|||9223372036854775808<dm:=sE (oK l) (by decide);refine(zss (oK (1::l)) (pZ (1::l)) ap (pZ l) λn n1 n2=> ?_).1;have hw:=VL (cE l) (cK l) 1 n;rw[show iT 1=9223372036854775808 from by decide,show iU 1=0 from by decide,Nat.or_zero] at hw;rw[hw,yr,yr];by_cases e:n=1
 ·subst e;simp [jh]
 ·simp [e,Ne.symm e]
theorem ajG(ae:Int)(l:List Int)(hl:l.length<=1000000):PD ae l=some ((dH ae (cE l) (cK l)).1,decide ((dH ae (cE l) (cK l)).2=0)):=by
 have tL:l.length<=maxLen:=by simp only[maxLen];omega
 have aao:([(1:Int)]++l).length<=maxLen:=by simp only[maxLen,th,By];omega
 obtain⟨r,dX,fc⟩:=LM ae l tL 64 65 af false (by omega) (by rw[zo];omega);rw[show((65:Nat):Int)=65 from rfl] at dX;have hr:r= !decide (cK l=0):=by
  have:=(ai1 l)
  by_cases h0:cK l=0
  ·rw[zT h0];cases r with
   |false=>rfl
   |true=>exact absurd ((fc.1 rfl).elim (λh=>by cases h) id) (this.1 h0)
  ·rw[zF h0];cases r with
   |true=>rfl
   |false=>have hex:∃n:Nat,65<=n/\n<=128/\(n:Int)∈l:=zfA λh=>h0 (this.2 h);have:=fc.2 (.inr hex);cases this
 have w1:xR l 1=some (wB (cE l)):=by have:=zg6 l tL 0 (by decide);rw[(zwq l).1] at this;exact this
 have w2:xR l 65=some (wB (cK l)):=by have:=zg6 l tL 64 (by decide);rw[(zwq l).2] at this;exact this
 have w3:xR ([(1:Int)]++l) 1=some (wB (cE (1::l))):=by have:=zg6 ([(1:Int)]++l) aao 0 (by decide);rw[(zwq ([(1:Int)]++l)).1] at this;exact this
 have fin:∀t:ByteArray,t.size<=16->(bif decide (ae=1) then(yM t).bind λr6=>some (r6,true) else some (t,true))=some (gn ae t,true):=λt ht=>by
  unfold gn;by_cases hs:ae=1
  ·rw[zT hs,zC,Vc t (by omega),if_pos hs];rfl
  ·rw[zF hs,if_neg hs];rfl
 have main:(ae=1\/ae=2)->((xQ l (1:Int)).bind λr1=>(bif r1 then some (bs [],false) else((FH af ae l false (65:Int)).bind λe=>zkg e.1 e.2.1 e.2.2 (λa0 a1=>some (a0,a1)))))=some ((dH ae (cE l) (cK l)).1,decide ((dH ae (cE l) (cK l)).2=0)):=λhs=>by
  rw[zmu l _ tL,zc,arn];by_cases h2:cE l<9223372036854775808
  case neg=>rw[zF h2,GW,zC];unfold dH;rw[if_neg (λh=>h2 h.2)];rfl
  rw[zT h2,ab,zD,dX,zc,zw3 hs h2];unfold zkg;dsimp only;rw[w1,zc,hr];by_cases hz:cK l=0
  ·rw[zT hz,ab,zD,if_pos hz];exact fin (wB _) (by rw[uP];decide)
  ·rw[zF hz,GW,zC,if_neg hz,zT (by simp only[By];omega),zC,w3,zc,w2,zc,zT (by rw[uP,uP];decide),zC,amW l h2,<-zt6];exact fin (wB _++wB _) (by rw[xG,uP,uP];decide)
 unfold PD OM;by_cases h1:ae=1
 ·rw[zT h1];exact main (.inl h1)
 ·rw[zF h1];by_cases h2:ae=2
  ·rw[zT h2];exact main (.inr h2)
  ·rw[zF h2];unfold dH;rw[if_neg (λh=>h.1.elim h1 h2)];rfl
def fU(m:ByteArray):Bool:=decide ((m.size:Int)=4)&&bE (bl m)
theorem oQ{m:ByteArray}:fU m=true↔m.size=4/\bE (bl m)=true:=by unfold fU;rw[nd,decide_eq_true_eq];constructor<;>intro h<;>exact⟨by omega,h.2⟩
theorem zco(m:ByteArray)(h:m.size<=maxLen):pn m=some (fU m):=by
 unfold pn zq2 fU;cases decide ((m.size:Int)=4) with
 |false=>rfl
 |true=>rw[zC,zws m h];rfl
theorem zfu(m:ByteArray)(h:m.size<=maxLen):kH m=some (fU m):=by
 unfold kH zmw fU;cases decide ((m.size:Int)=4) with
 |false=>rfl
 |true=>rw[zC,zfi m h];rfl
theorem sQ{m:ByteArray}(h:fU m=true)(i:Nat)(hi:i<4):48<=ze m i/\ze m i<=57:=by
 obtain⟨h1,h2⟩:=oQ.1 h;have hl:i<(bl m).length:=by rw[zf];omega
 have:=List.all_eq_true.1 h2 _ (zan hl);rw[lW,be,ks hl];exact of_decide_eq_true this
def eC(m:ByteArray):Int:=bif fU m then ze m 0-48 else 0
def dY(m:ByteArray):Bool:=fU m&&(decide (ze m 2=48)||decide (ze m 2=50))
theorem z9a(m:ByteArray)(h:m.size<=maxLen):ke m=some (eC m,fU m):=by
 unfold ke zq3 eC;rw[zco m h,ir];cases hr:fU m with
 |false=>rfl
 |true=>obtain⟨h1,_⟩:=oQ.1 hr;have:=sQ hr 0 (by omega);simp only[ab,zD,zC];rw[zl (by omega) (by omega),show(0:Int).toNat=0 from rfl,xv (by omega) (by omega),zi (by omega) (by omega)]
theorem zft(m:ByteArray)(h:m.size<=maxLen):pk m=some (dY m):=by
 unfold pk zq0 dY;rw[zco m h,ir];cases hr:fU m with
 |false=>rfl
 |true=>obtain⟨h1,_⟩:=oQ.1 hr;rw[zC,zl (by omega) (by omega),zl (by omega) (by omega),show(2:Int).toNat=2 from rfl];cases decide (ze m 2=48)<;>rfl
theorem zb6(m:ByteArray)(h:m.size<=maxLen):F5 m=some (dY m):=by
 unfold F5 B5 dY;rw[zfm m h,ir];unfold du;by_cases h4:m.size=4
 ·cases hd:bE (bl m) with
  |false=>
   rw[if_neg (by simp)];have:fU m=false:=by unfold fU;rw[hd,zbW]
   rw[this];rfl
  |true=>
   have hr:fU m=true:=oQ.2 ⟨h4,hd⟩;rw[if_pos ⟨by rw[zf];omega,by rw[zf];omega,rfl⟩,hr];dsimp only;rw[zC,zT (by omega),zC,zbC];have hl:(bl m).length=4:=by rw[zf,h4]
   obtain⟨d0,d1,d2,d3,hb⟩:∃d0 d1 d2 d3,bl m=[d0,d1,d2,d3]:=by
    match hm:bl m,hl with
    | [d0,d1,d2,d3],_=>exact⟨d0,d1,d2,d3,rfl⟩
   have h0:=sQ hr 0 (by omega);have h1:=sQ hr 1 (by omega);have h2:=sQ hr 2 (by omega);have h3:=sQ hr 3 (by omega);rw[lW,hb] at h0 h1 h2 h3;rw[lW,hb];simp only[List.getD_cons_zero,List.getD_cons_succ] at h0 h1 h2 h3⊢;have hv:dG [d0,d1,d2,d3] 0=1000*(d0-48)+100*(d1-48)+10*(d2-48)+(d3-48):=by simp only[dG,za3,List.foldl_nil];omega
   have hq:Int.tmod (zW zI (Int.tdiv (dG [d0,d1,d2,d3] 0) 10)) 10=d2-48:=by rw[hv,zdr (by omega),zi (by omega) (by omega),zdq (by omega)];omega
   rw[hq];by_cases e1:d2=48
   ·rw[zT e1,zT (by omega:d2-48=0)];rfl
   ·rw[zF e1,zF (by omega:¬d2-48=0),zD,zbX];congr 1;exact decide_eq_decide.2 (by omega)
 ·have:fU m=false:=by unfold fU;rw[zF (by omega),Bool.false_and]
  rw[this];cases(if 1<=(bl m).length/\(bl m).length<=18/\bE (bl m)=true then(dG (bl m) 0,true) else((0:Int),false)).2 with
  |false=>rfl
  |true=>rw[zC,zF (by omega)];rfl
def jr(m:ByteArray)(v:Int):Bool:=fU m&&decide (ze m 0-48=v)
theorem zmr(m:ByteArray)(v:Int)(h:m.size<=maxLen):sZ m v=some (jr m v):=by
 unfold sZ zoh jr;rw[zfu m h,ir];cases hr:fU m with
 |false=>rfl
 |true=>obtain⟨h1,_⟩:=oQ.1 hr;have:=sQ hr 0 (by omega);have w1:zW zI (ze m 0)=ze m 0:=zi (by omega) (by omega);rw[zC,zl (by omega) (by omega),show(0:Int).toNat=0 from rfl,w1,zi (by omega) (by omega)];rfl
def oV(p:bG)(a b:zg):Bool:=jr p.1 a.2.1&&(jr p.2.1 b.2.1&&(dY p.1==dY p.2.1))
theorem am5(p:bG)(a b:zg)(h1:p.1.size<=maxLen)(h2:p.2.1.size<=maxLen):pB p a b=some (oV p a b):=by
 unfold pB zse oV jr;rw[z9a _ h1,z9a _ h2,zft _ h1,zft _ h2];simp only[ir];unfold eC;cases fU p.1 with
 |false=>rfl
 |true=>
  cases fU p.2.1 with
  |false=>simp
  |true=>
   simp only[zC,zbC];cases decide (ze p.1 0-48=a.2.1) with
   |false=>rfl
   |true=>
    cases decide (ze p.2.1 0-48=b.2.1) with
    |false=>rfl
    |true=>rfl
abbrev bu:=ByteArray×List aQ×Unit
abbrev bV:=Int×Int×Unit
abbrev fT:aQ:=(0,bs [],())
abbrev zu:bV:=(0,0,())
structure dP(m:bu):Prop where
 sC:m.1.size<=9223372036854775807
 len:m.2.1.length<=1000000
 oq:∀v∈m.2.1,v.2.1.size<=1099511627776
def eJ(l:List aQ)(no:Int):List aQ:=l.filter λv=> !decide (v.1=no)
theorem zli(l:List aQ)(no:Int):(eJ l no).length<=l.length:=zcD _ _
theorem z8o(no:Int)(fin:bu×bu->Option (bu×bu)):∀(l:List aQ) (i:Int) (s:bu×bu),s.2.2.1.length+l.length<=1000000000->
 aV (λi (x:aQ) (s:bu×bu) K=>(bif(!(decide (x.1=no))) then(bif(decide ((s.2.2.1.length+(aa ([x]:List aQ)))*24<=140737488355328)) then K (s.1,(s.2.1,(s.2.2.1++([x]:List aQ)),())) else none) else K s)) fin l i s=fin (s.1,(s.2.1,s.2.2.1++eJ l no,()))
 | [],i,s,_=>by show fin s=_;simp [eJ]
 |x::r,i,s,h=>by
  simp only[ls] at h;rw[aV];by_cases hx:x.1=no
  ·rw[zT hx,ab,zD];refine(z8o no fin r (i+1) s (by omega)).trans ?_;simp [eJ,hx]
  ·rw[zF hx,GW,zC,zT (by simp only[By];omega),zC];refine(z8o no fin r (i+1) (s.1,(s.2.1,s.2.2.1++ [x],())) (by simp only[th,By];omega)).trans ?_;simp [eJ,hx]
theorem adO(m:bu)(no:Int)(h:m.2.1.length<=1000000):vw m no=some (m.1,eJ m.2.1 no,()):=by
 unfold vw zpz;dsimp only;have:=cn fT m.2.1 (by rw[zj];omega) (λi (x:aQ) (s:bu×bu) K=>(bif(!(decide (x.1=no))) then(bif(decide ((s.2.2.1.length+(aa ([x]:List aQ)))*24<=140737488355328)) then K (s.1,(s.2.1,(s.2.2.1++([x]:List aQ)),())) else none) else K s)) (λs=>some s)
  (λk i s=>Z6 k no m.2.1 (m.2.1.length:Int) i s.1 s.2) (λk i s=>rfl) ((bs [],[],()),(m.1,[],()))
 rw[this,z8o no _ _ _ _ (by simp;omega)];rfl
def cz(no:Int):List aQ->Int->Int
 | [],_=> -1
 |x::r,i=>if no<x.1 then i else cz no r (i+1)
theorem Y1(no:Int):∀(l:List aQ) (i:Int),0<=i->(cz no l i= -1/\∀x∈l,x.1<=no)\/(i<=cz no l i/\cz no l i<i+l.length)
 | [],i,h=> .inl ⟨rfl,λx hx=>by cases hx⟩
 |x::r,i,h=>by
  unfold cz;by_cases hx:no<x.1
  ·rw[if_pos hx];right;simp only[ls];omega
  ·rw[if_neg hx];rcases Y1 no r (i+1) (by omega) with⟨h1,h2⟩|h1
   ·left;refine⟨h1,λy hy=> ?_⟩;rcases If.1 hy with rfl|hy
    ·omega
    ·exact h2 y hy
   ·right;simp only[ls];omega
def exV(r no:Int):Sum (Int×Int) Int:=bif decide (r<0) then .inr no else .inl (r,no)
theorem Up(no:Int):∀(l:List aQ) (i:Int),0<=i->aV (λi (x:aQ) (s:Int) K=>((vv x s).bind λr1=>(bif r1.1 then some (Sum.inl (i,r1.2)) else K r1.2))) (λs=>some (Sum.inr s)) l i no=some (exV (cz no l i) no)
 | [],i,h=>rfl
 |x::r,i,h=>by
  rw[aV,cz];show(bif decide (no<x.1) then some (Sum.inl (i,no)) else aV _ _ r (i+1) no)=_;by_cases hx:no<x.1
  ·rw[zT hx,zC,if_pos hx];unfold exV;rw[zF (by omega)];rfl
  ·rw[zF hx,zD,if_neg hx];exact Up no r (i+1) (by omega)
theorem aeD(l:List aQ)(no:Int)(h:l.length<=1000000):vL l no=some (cz no l 0,no):=by
 unfold vL zr7;dsimp only;have:=cn fT l (by rw[zj];omega) (λi (x:aQ) (s:Int) K=>((vv x s).bind λr1=>(bif r1.1 then some (Sum.inl (i,r1.2)) else K r1.2))) (λs=>some (Sum.inr s))
  (λk i s=>ze4 k l (l.length:Int) i s) (λk i s=>rfl) no
 rw[this,Up no l 0 (zaT _),zc];unfold exV;rcases Y1 no l 0 (zaT _) with⟨h1,_⟩|h1
 ·rw[h1];rfl
 ·rw[zF (by omega)];rfl
theorem aiS(old:List aQ)(at_:Nat)(v d:aQ)(h:at_<=old.length):
 ci (za1 (ci (so (old.length+1) d) (It (old.length+1) (zac 0 (It at_ old))) 0) at_ v) (It (old.length+1-(at_+1)) (zac at_ (It old.length old))) (at_+1)=old.take at_++v::old.drop at_:=by
 have e1:It (old.length+1) (zac 0 (It at_ old))=old.take at_:=by rw[GS,List.take_take,Nat.min_eq_right (by omega)]
 have e2:It (old.length+1-(at_+1)) (zac at_ (It old.length old))=old.drop at_:=by rw[zaH,za6 (by rw[zaD];omega)]
 rw[e1,e2];have hl:(old.take at_).length=at_:=by rw[Of];omega
 have e3:ci (so (old.length+1) d) (old.take at_) 0=old.take at_++so (old.length+1-at_) d:=by unfold ci;rw[zbd,zah,hl,Nat.zero_add,List.drop_replicate]
 obtain⟨n,hn⟩:∃n,old.length+1-at_=n+1:=⟨old.length-at_,by omega⟩
 have e4:za1 (old.take at_++so (old.length+1-at_) d) at_ v=old.take at_++v::so n d:=by rw[hn,List.replicate_succ,List.set_append,if_neg (by omega),hl,Nat.sub_self,List.set_cons_zero]
 rw[e3,e4];unfold ci;have e5:(old.take at_++v::so n d).take (at_+1)=old.take at_++ [v]:=by rw[List.take_append,hl,show at_+1-at_=1 by omega,za6 (by omega)];rfl
 have e6:(old.take at_++v::so n d).drop (at_+1+(old.drop at_).length)=[]:=by apply GA;rw[th,hl,ls,zbY,zaD];omega
 rw[e5,e6,zay,MM];rfl
theorem U4(q t:ByteArray)(no:Int)(old:List aQ)(at_:Nat)(h:at_<=old.length)(hl:old.length<=1000000):
 (bif(decide ((zW zI (((aa old):Int)+(1:Int)))=(zW zI (((aa old):Int)+(1:Int))))) then(bif(decide ((0:Int)<=(zW zI (((aa old):Int)+(1:Int))))) then(bif(decide ((zW zI (((aa old):Int)+(1:Int)))*24<=140737488355328)) then(bif(decide ((0:Int)<=((at_:Nat):Int))) then(bif(decide (((at_:Nat):Int)<=(((aa old):Nat):Int))) then(bif(Nat.beq ((zW zI (((aa old):Int)+(1:Int)))).toNat (aa (so ((zW zI (((aa old):Int)+(1:Int)))).toNat ((0:Int),(bs []),())))) then(zd ((at_:Nat):Int) ((zW zI (((aa old):Int)+(1:Int)))).toNat (bif(Nat.ble ((((at_:Nat):Int)).toNat+1) (aa (ci (so ((zW zI (((aa old):Int)+(1:Int)))).toNat ((0:Int),(bs []),())) (It ((zW zI (((aa old):Int)+(1:Int)))).toNat (zac 0 (It (((at_:Nat):Int)).toNat old))) 0))) then(bif(decide ((0:Int)<=(zW zI (((at_:Nat):Int)+(1:Int))))) then(bif(decide ((zW zI (((at_:Nat):Int)+(1:Int)))<=((((zW zI (((aa old):Int)+(1:Int)))).toNat:Nat):Int))) then(bif(decide ((0:Int)<=((at_:Nat):Int))) then(bif(decide (((at_:Nat):Int)<=(((aa old):Nat):Int))) then(bif(Nat.beq ((zW zI (((aa old):Int)+(1:Int)))).toNat (aa (za1 (ci (so ((zW zI (((aa old):Int)+(1:Int)))).toNat ((0:Int),(bs []),())) (It ((zW zI (((aa old):Int)+(1:Int)))).toNat (zac 0 (It (((at_:Nat):Int)).toNat old))) 0) (((at_:Nat):Int)).toNat (no,t,())))) then(bif(Nat.ble ((zW zI (((at_:Nat):Int)+(1:Int)))).toNat ((zW zI (((aa old):Int)+(1:Int)))).toNat) then(bif(Nat.beq ((zW zI (((aa old):Int)+(1:Int)))).toNat (aa (ci (za1 (ci (so ((zW zI (((aa old):Int)+(1:Int)))).toNat ((0:Int),(bs []),())) (It ((zW zI (((aa old):Int)+(1:Int)))).toNat (zac 0 (It (((at_:Nat):Int)).toNat old))) 0) (((at_:Nat):Int)).toNat (no,t,())) (It (((zW zI (((aa old):Int)+(1:Int)))).toNat-((zW zI (((at_:Nat):Int)+(1:Int)))).toNat) (zac (((at_:Nat):Int)).toNat (It (aa old) old))) ((zW zI (((at_:Nat):Int)+(1:Int)))).toNat))) then(some (q,(ci (za1 (ci (so ((zW zI (((aa old):Int)+(1:Int)))).toNat ((0:Int),(bs []),())) (It ((zW zI (((aa old):Int)+(1:Int)))).toNat (zac 0 (It (((at_:Nat):Int)).toNat old))) 0) (((at_:Nat):Int)).toNat (no,t,())) (It (((zW zI (((aa old):Int)+(1:Int)))).toNat-((zW zI (((at_:Nat):Int)+(1:Int)))).toNat) (zac (((at_:Nat):Int)).toNat (It (aa old) old))) ((zW zI (((at_:Nat):Int)+(1:Int)))).toNat),())) else none) else none) else none) else none) else none) else none) else none) else none)) else none) else none) else none) else none) else none) else none)=some (q,old.take at_++(no,t,())::old.drop at_,()):=by
 have w1:zW zI ((old.length:Int)+1)=((old.length+1:Nat):Int):=zq (by omega);have w2:zW zI ((at_:Int)+1)=((at_+1:Nat):Int):=zq (by omega);simp only[w1,w2,ba];have key:=aiS old at_ (no,t,()) ((0:Int),bs [],()) h;have l1:(ci (so (old.length+1) ((0:Int),(bs []),())) (It (old.length+1) (zac 0 (It at_ old))) 0).length=old.length+1:=by unfold ci;simp;omega
 have l2:(old.take at_++(no,t,())::old.drop at_).length=old.length+1:=by rw[th,Of,ls,zaD];omega
 have d2:decide ((0:Int)<=((old.length+1:Nat):Int))=true:=zT (by omega);have d3:decide (((old.length+1:Nat):Int)*24<=140737488355328)=true:=zT (by omega);have d4:decide ((0:Int)<=(at_:Int))=true:=zT (by omega);have d5:decide ((at_:Int)<=(old.length:Int))=true:=zT (by omega);have d9:decide ((0:Int)<=((at_+1:Nat):Int))=true:=zT (by omega);have d10:decide (((at_+1:Nat):Int)<=((old.length+1:Nat):Int))=true:=zT (by omega);have b1:Nat.ble (at_+1) (old.length+1)=true:=Nat.ble_eq_true_of_le (by omega);have hw:∀{R:Type} (x:Option R),zd (at_:Int) (old.length+1) x=x:=λx=>zh (by omega);simp only[decide_true,zC,d2,d3,d4,d5,zbY,Nat.beq_refl,hw,l1,b1,d9,d10,List.length_set,key,l2]
def m4(l:List aQ)(no:Int)(t:ByteArray):List aQ:=
 bif decide (cz no l 0<0) then l++ [(no,t,())] else l.take (cz no l 0).toNat++(no,t,())::l.drop (cz no l 0).toNat
def dT(m:bu)(no:Int)(t:ByteArray):bu:=(m.1,m4 (eJ m.2.1 no) no t,())
theorem zfo(m:bu)(no:Int)(t:ByteArray)(h:m.2.1.length<=1000000):iO m no t=some (dT m no t):=by
 unfold iO zpx dT;have hl:=zli m.2.1 no;rw[adO m no h,zc];dsimp only;generalize eJ m.2.1 no=old at*;rw[aeD old no (by omega),zc];dsimp only;unfold m4;rcases Y1 no old 0 (zaT _) with⟨h1,_⟩|h1
 ·rw[h1,zT (by omega:(-1:Int)<0),zC,zC];refine(U4 m.1 t no old old.length (zag _) (by omega)).trans ?_;rw[zaH,List.drop_length]
 ·rw[zF (by omega:¬cz no old 0<0),zD,zD];obtain⟨n,hn⟩:∃n:Nat,cz no old 0=n:=⟨(cz no old 0).toNat,by omega⟩
  rw[hn];refine(U4 m.1 t no old n (by omega) (by omega)).trans ?_;rw[ba]
def sO(s:zg):List aQ->Int->Option bV
 | [],_=>none
 |x::r,last=>bif decide (x.1<=last) then some (11,x.1,()) else bif !bC s x.1 then some (9,x.1,()) else bif !decide (bJ (aX s x.1) x.2.1=0) then some (bJ (aX s x.1) x.2.1,x.1,()) else sO s r x.1
def zsl(o:Option bV):Option (Sum bV bV):=some (match o with
 |some f=> .inl f
 |none=> .inr zu)
theorem zgc(s:zg)(hs:s.2.2.1.length<=maxLen):∀(l:List aQ) (i last:Int),(∀v∈l,v.2.1.size<=1099511627776)->
 aV (λi (x:aQ) (t9:Int) K=>(bif(decide (x.1<=t9)) then some (Sum.inl ((11:Int),x.1,())) else((gk s x.1).bind λr3=>(bif(!r3.2) then some (Sum.inl ((9:Int),x.1,())) else((cf r3.1 x.2.1).bind λr4=>(bif(!(decide (r4=(0:Int)))) then some (Sum.inl (r4,x.1,())) else K x.1)))))) (λ_=>some (Sum.inr zu)) l i last=zsl (sO s l last)
 | [],i,last,_=>rfl
 |x::r,i,last,h=>by
  rw[aV,sO,Cm s _ hs,zc];cases decide (x.1<=last) with
  |true=>rfl
  |false=>
   rw[zD,zD];dsimp only;cases bC s x.1 with
   |false=>rfl
   |true=>
    rw[ab,zD,zD,ye _ _ (h x IS),zc];cases decide (bJ (aX s x.1) x.2.1=0) with
    |false=>rfl
    |true=>rw[ab,zD,zD];exact zgc s hs r (i+1) x.1 (λv hv=>h v (Cs _ hv))
def fP(s:zg)(m:bu):bV:=
 bif !decide ((ij s).1=0) then(1,-1,()) else bif !fU m.1 then(7,0,()) else bif !decide (eC m.1=s.2.1) then(7,0,()) else match sO s m.2.1 0 with
  |some f=>f
  |none=>zu
theorem ztn(s:zg)(m:bu)(hs:s.2.2.1.length<=maxLen)(h:dP m):s6 s m=some (fP s m):=by
 unfold s6 zps fP;rw[Zj s hs,zc,z9a m.1 (by rw[zj];exact h.sC),zc];cases decide ((ij s).1=0) with
 |false=>rfl
 |true=>
  rw[ab,zD,zD];dsimp only;cases fU m.1 with
  |false=>rfl
  |true=>
   rw[ab,zD,zD];cases decide (eC m.1=s.2.1) with
   |false=>rfl
   |true=>
    rw[ab,zD,zD];have hl:=h.len;have:=cn fT m.2.1 (by rw[zj];omega) (λi (x:aQ) (t9:Int) K=>(bif(decide (x.1<=t9)) then some (Sum.inl ((11:Int),x.1,())) else((gk s x.1).bind λr3=>(bif(!r3.2) then some (Sum.inl ((9:Int),x.1,())) else((cf r3.1 x.2.1).bind λr4=>(bif(!(decide (r4=(0:Int)))) then some (Sum.inl (r4,x.1,())) else K x.1)))))) (λ_=>some (Sum.inr zu))
     (λk i t9=>Z3 k t9 m.2.1 (m.2.1.length:Int) i s zu) (λk i t9=>rfl) 0
    rw[this,zgc s hs _ _ _ h.oq];unfold zsl;cases sO s m.2.1 0<;>rfl
theorem ac2(s:zg)(m:bu)(hs:s.2.2.1.length<=maxLen)(h:dP m)(last:Int):yk af last 0 s m zu=zsl (sO s m.2.1 last):=by
 have hl:=h.len;rw[<-zgc s hs m.2.1 0 last h.oq];refine gf fT m.2.1 (by rw[zj];omega) (λi (x:aQ) (t9:Int) K=>(bif(decide (x.1<=t9)) then some (Sum.inl ((11:Int),x.1,())) else((gk s x.1).bind λr3=>(bif(!r3.2) then some (Sum.inl ((9:Int),x.1,())) else((cf r3.1 x.2.1).bind λr4=>(bif(!(decide (r4=(0:Int)))) then some (Sum.inl (r4,x.1,())) else K x.1)))))) (λ_=>some (Sum.inr zu))
  (λk i t9=>yk k t9 i s m zu) (λk i t9 h0 h1=> ?_) (λk t9=> ?_) last
 ·show yk (k+1) t9 i s m zu=_
  conv=>lhs;unfold yk Zv
  rw[zT h1,zC,zl h0 h1];have hx:(an m.2.1 i.toNat ((0:Int),bs [],()))∈m.2.1:=by rw[be,ks (by omega)];exact zan _
  show _=(bif(decide ((an m.2.1 i.toNat ((0:Int),bs [],())).1<=t9)) then _ else _)
  generalize hxx:(an m.2.1 i.toNat ((0:Int),bs [],()))=x at*;cases decide (x.1<=t9) with
  |true=>rfl
  |false=>
   rw[zD,zD,Fq s _ hs,zc,Cm s _ hs,zc];rcases Fs s x.1 with⟨i1,i2,i3⟩|⟨i1,i2,i3,i4⟩
   ·rw[i1,i2,zT (by omega:(-1:Int)<0)];rfl
   ·rw[zF (by omega:¬eX s.2.2.1 x.1 0<0),zD,i3,ab,zD,zl i1 i2,zl h0 h1,i4,xB _ _ (h.oq x hx),zc,ye _ _ (h.oq x hx),zc]
 ·show yk (k+1) t9 m.2.1.length s m zu=_
  conv=>lhs;unfold yk Zv
  rw[zF (by omega),zD]
theorem aew(s:zg)(m:bu)(hs:s.2.2.1.length<=maxLen)(h:dP m):uV s m=some (fP s m):=by
 unfold uV zmy fP;rw[Y3 s hs,zc,zfu m.1 (by rw[zj];exact h.sC),zc];cases decide ((ij s).1=0) with
 |false=>rfl
 |true=>
  rw[ab,zD,zD];cases hr:fU m.1 with
  |false=>rfl
  |true=>
   obtain⟨r1,_⟩:=oQ.1 hr;have hd:=sQ hr 0 (by omega);rw[ab,zD,zD,zl (by omega) (by omega)];have hv:eC m.1=ze m.1 0-48:=by unfold eC;rw[hr];rfl
   have e1:zW zI (ze m.1 0)=ze m.1 0:=zi (by omega) (by omega);rw[show((0:Int)).toNat=0 from rfl,e1,zi (by omega) (by omega),<-hv];cases decide (eC m.1=s.2.1) with
   |false=>rfl
   |true=>rw[ab,zD,zD];dsimp only;rw[ac2 s m hs h 0];unfold zsl;cases sO s m.2.1 0<;>rfl
theorem apL{a b:bu}:a=b↔a.1=b.1/\a.2.1=b.2.1:=⟨λh=>by rw[h];exact⟨rfl,rfl⟩,λh=>Prod.ext h.1 (Prod.ext h.2 rfl)⟩
abbrev Map:=List bG×List aS×Unit
structure dq(m:Map):Prop where
 m5:eZ m.1
 len:m.2.1.length<=1000000
 rules:∀r∈m.2.1,eH r
def fg(a b:zg):List ByteArray->List bG->Int->Option (Int×Int)
 |_,[],_=>none
 |seen,p::r,i=>if oV p a b=true then(if p.1∈seen then some (10,i) else fg a b (seen++ [p.1]) r (i+1)) else some (7,i)
abbrev Xr:=Sum (Int×Int×Int×Map×zg×zg) (Map×zg×zg)
def oc(m:Map)(a b:zg)(o:Option (Int×Int)):Option Xr:=some (match o with
 |some e=> .inl (e.1,2,e.2,m,a,b)
 |none=> .inr (m,a,b))
theorem V0(m:Map)(a b:zg):∀(l:List bG) (i:Int) (seen:List ByteArray),(∀p∈l,p.1.size<=1099511627776/\p.2.1.size<=1099511627776)->
 aV (λi (x:bG) (s:List iH) K=>((pB x a b).bind λr2=>(bif(!r2) then some (Sum.inl ((7:Int),(2:Int),i,m,a,b)) else(bif fG (gL .str) false s x.1 then some (Sum.inl ((10:Int),(2:Int),i,m,a,b)) else(bif fH (gL .str) s x.1 then none else K (s++ [(x.1,true)])))))) (λ_=>some (Sum.inr (m,a,b))) l i (eh seen)=oc m a b (fg a b seen l i)
 | [],i,seen,_=>rfl
 |p::r,i,seen,h=>by
  obtain⟨h1,h2⟩:=h p IS;simp only[aV,fg];rw[am5 p a b (by rw[zj];omega) (by rw[zj];omega),ir];cases oV p a b with
  |false=>rw[if_neg (by simp)];rfl
  |true=>
   rw[if_pos rfl];simp only[ab,zD];have e1:=zc3 (gL .str) (λ_ _=>rfl) p.1 seen;have e2:=zc4 (gL .str) (λ_ _=>rfl) p.1 seen;by_cases hm:p.1∈seen
   ·rw[e1.2 hm,if_pos hm];rfl
   ·rw[L6 e1 hm,L6 e2 hm,if_neg hm,zD,zD,zbo];exact V0 m a b r (i+1) (seen++ [p.1]) λq hq=>h q (Cs _ hq)
theorem aiC(m:Map)(a b:zg)(h:eZ m.1):Oj af m.1 (m.1.length:Int) 0 m a b []=oc m a b (fg a b [] m.1 0):=by
 have hl:=h.len;have:=cn jY m.1 (by rw[zj];omega) (λi (x:bG) (s:List iH) K=>((pB x a b).bind λr2=>(bif(!r2) then some (Sum.inl ((7:Int),(2:Int),i,m,a,b)) else(bif fG (gL .str) false s x.1 then some (Sum.inl ((10:Int),(2:Int),i,m,a,b)) else(bif fH (gL .str) s x.1 then none else K (s++ [(x.1,true)])))))) (λ_=>some (Sum.inr (m,a,b)))
  (λk i s=>Oj k m.1 (m.1.length:Int) i m a b s) (λk i s=>rfl) []
 rw[this];exact V0 m a b m.1 0 [] h.sz
theorem ahI(f:ByteArray)(l:List bG):(zt l f).2=true↔f∈l.map λp=>p.1:=by
 unfold zt
 induction l with
 |nil=>simp
 |cons p r ih=>
  rw[zbB,zaq,If];by_cases h:p.1=f
  ·rw[zT h];exact⟨λ_=> .inl h.symm,λ_=>rfl⟩
  ·rw[zF h];exact ih.trans ⟨.inr,λh'=>h'.resolve_left λe=>h e.symm⟩
theorem zto(m:Map)(a b:zg)(h:eZ m.1):∀(n j k:Nat),j+n=m.1.length->n<k->Mh k (j:Int) m a b=oc m a b (fg a b ((m.1.take j).map λp=>p.1) (m.1.drop j) j)
 |n,j,0,_,hk=>by omega
 |0,j,k+1,hj,hk=>by unfold Mh ZG;rw[zF (by omega),show m.1.drop j=[] from GA (by omega)];rfl
 |n+1,j,k+1,hj,hk=>by
  have hl:=h.len;have ap:j<m.1.length:=by omega
  obtain⟨h1,h2⟩:=h.sz _ (zan ap);have hg:∀d,m.1.getD j d=m.1[j]:=λd=>by rw[be,ks ap];rfl
  unfold Mh ZG;rw[zT (by omega),zC,zh ap,ba,hg,zmr _ _ (by rw[zj];omega),ir,AT ap];simp only[fg];cases v1:jr m.1[j].1 a.2.1 with
  |false=>
   have:oV m.1[j] a b=false:=by unfold oV;rw[v1];rfl
   rw[this,if_neg (by simp)];rfl
  |true=>
   simp only[ab,zD];rw[zmr _ _ (by rw[zj];omega),ir];cases v2:jr m.1[j].2.1 b.2.1 with
   |false=>
    have:oV m.1[j] a b=false:=by unfold oV;rw[v1,v2];rfl
    rw[this,if_neg (by simp)];rfl
   |true=>
    simp only[ab,zD];rw[zb6 _ (by rw[zj];omega),ir,zb6 _ (by rw[zj];omega),ir];cases v3:(dY m.1[j].1==dY m.1[j].2.1) with
    |false=>
     have:oV m.1[j] a b=false:=by unfold oV;rw[v1,v2,v3];rfl
     rw[this,if_neg (by simp)];rfl
    |true=>
     have:oV m.1[j] a b=true:=by unfold oV;rw[v1,v2,v3];rfl
     rw[this,if_pos rfl];simp only[ab,zD];rw[zT (by omega:(0:Int)<=(j:Int)),zT (by omega:(j:Int)<=((m.1.length:Nat):Int)),zC,zC,GS,zfj _ _ (by rw[Of,zj];omega),ir];have hm:=ahI m.1[j].1 (m.1.take j);by_cases dD:m.1[j].1∈(m.1.take j).map λp=>p.1
     ·rw[hm.2 dD,if_pos dD];rfl
     ·rw[L6 hm dD,if_neg dD,zD,zq (by omega),zto m a b h n (j+1) k (by omega) (by omega)];congr 2;rw[List.take_add_one,ks ap,zaY];rfl
def lG(x y:aS):Bool:=(!decide (x.2.1=0)&&decide (x.2.1=y.2.1))||(!decide (x.2.2.1=0)&&decide (x.2.2.1=y.2.2.1))
theorem am4(x y:aS):vf x y=some (lG x y):=by unfold vf zog lG;generalize decide (x.2.1=0)=c1;generalize decide (x.2.1=y.2.1)=c2;generalize decide (x.2.2.1=0)=c3;generalize decide (x.2.2.1=y.2.2.1)=c4;cases c1<;>cases c2<;>cases c3<;>cases c4<;>rfl
def p6(a b:zg):List aS->List aS->Int->Option (Int×Int)
 |_,[],_=>none
 |prev,r::l,i=>if dS r a b=0 then(if prev.any (λq=>lG q r)=true then some (10,i) else p6 a b (prev++ [r]) l (i+1)) else some (dS r a b,i)
def Cg(o:Option (Int×Int)):Option (Sum jy Unit):=some (match o with
 |some e=> .inl (e.1,3,e.2)
 |none=> .inr ())
def YW(m:Map)(a b:zg)(i:Int)(t:Bool):Sum (Int×Int×Int×Int×Map×zg×zg) (Int×Map×zg×zg):=bif t then .inl (10,3,i,i,m,a,b) else .inr (i,m,a,b)
theorem Kh{m:Map}{j:Nat}(ap:j<m.2.1.length)(d:aS):m.2.1.getD j d=m.2.1[j]:=by rw[be,ks ap];rfl
theorem Tm(m:Map)(a b:zg)(i:Nat)(hi:i<m.2.1.length)(hl:m.2.1.length<=1000000):∀(n j k:Nat),j+n=i->n<k->Mj k (i:Int) (j:Int) m a b=some (YW m a b i (((m.2.1.take i).drop j).any λq=>lG q m.2.1[i]))
 |n,j,0,_,hk=>by omega
 |0,j,k+1,hj,hk=>by
  have:j=i:=by omega
  subst this;unfold Mj ZI;rw[zF (by omega),GA (by rw[Of];omega)];rfl
 |n+1,j,k+1,hj,hk=>by
  have ap:j<m.2.1.length:=by omega
  unfold Mj ZI;have hd:(m.2.1.take i).drop j=m.2.1[j]::(m.2.1.take i).drop (j+1):=by rw[AT (by rw[Of];omega)];congr 1;rw[List.getElem_take]
  rw[zT (by omega),zC,zh ap,zh hi,ba,ba,Kh ap,Kh hi,am4,ir,hd,zdo];cases lG m.2.1[j] m.2.1[i] with
  |true=>rfl
  |false=>rw[zD,zq (by omega)];dsimp only;rw[Tm m a b i hi hl n (j+1) k (by omega) (by omega),zbX]
theorem zmc(m:Map)(a b:zg)(h:dq m)(ha:a.2.2.1.length<=maxLen)(hb:b.2.2.1.length<=maxLen):∀(n j k:Nat),j+n=m.2.1.length->n<k->Mi k (j:Int) m a b=Cg (p6 a b (m.2.1.take j) (m.2.1.drop j) j)
 |n,j,0,_,hk=>by omega
 |0,j,k+1,hj,hk=>by unfold Mi ZH;rw[zF (by omega),GA (by omega)];rfl
 |n+1,j,k+1,hj,hk=>by
  have hl:=h.len;have ap:j<m.2.1.length:=by omega
  unfold Mi ZH;rw[zT (by omega),zC,zh ap,ba,Kh ap,aey _ a b (h.rules _ (zan ap)) ha hb,ir,AT ap];simp only[p6];by_cases z:dS m.2.1[j] a b=0
  ·rw[zT z,if_pos z];simp only[ab,zD];have ht:=Tm m a b j ap hl j 0 af (by omega) (by rw[zo];omega);rw[show((0:Nat):Int)=(0:Int) from rfl,GS] at ht;rw[ht,ir];cases(m.2.1.take j).any λq=>lG q m.2.1[j] with
   |true=>rw[if_pos rfl];rfl
   |false=>rw[if_neg (by simp)];unfold YW zny;simp only[zD,zaA];rw[zq (by omega),zmc m a b h ha hb n (j+1) k (by omega) (by omega)];congr 2;rw[List.take_add_one,ks ap];rfl
  ·rw[zF z,if_neg z];rfl
def dF(m:Map)(a b:zg):Int×Int×Int:=
 if(ij a).1=0 then(if(ij b).1=0 then(if 256<m.1.length then(5,2,256) else match fg a b [] m.1 0 with
  |some e=>(e.1,2,e.2)
  |none=>if 256<m.2.1.length then(5,3,256) else match p6 a b [] m.2.1 0 with
   |some e=>(e.1,3,e.2)
   |none=>(0,0,0)) else(1,1,1)) else(1,1,0)
theorem zfk(m:Map)(a b:zg)(h:dq m)(ha:a.2.2.1.length<=maxLen)(hb:b.2.2.1.length<=maxLen):sX m a b=some (dF m a b):=by
 have h1:=h.m5.len;have h2:=h.len;unfold sX znw dF;rw[Y3 a ha,ir];by_cases za:(ij a).1=0
 ·rw[zT za,if_pos za];simp only[ab,zD];rw[Y3 b hb,ir];by_cases zb:(ij b).1=0
  ·rw[zT zb,if_pos zb];simp only[ab,zD];by_cases hm:256<m.1.length
   ·rw[zT (by omega),if_pos hm];rfl
   ·rw[zF (by omega),if_neg hm,zD];have e1:=zto m a b h.m5 m.1.length 0 af (by omega) (by rw[zo];omega);rw[show((0:Nat):Int)=(0:Int) from rfl,zbd,GS,zbK] at e1;rw[e1];unfold oc;cases fg a b [] m.1 0 with
    |some e=>rfl
    |none=>
     simp only[ir,zaA];unfold znx;by_cases hr:256<m.2.1.length
     ·rw[zT (by omega),if_pos hr];rfl
     ·rw[zF (by omega),if_neg hr,zD];have e2:=zmc m a b h ha hb m.2.1.length 0 af (by omega) (by rw[zo];omega);rw[show((0:Nat):Int)=(0:Int) from rfl,zbd,GS] at e2;dsimp only;rw[e2];unfold Cg;cases p6 a b [] m.2.1 0<;>rfl
  ·rw[zF zb,if_neg zb];rfl
 ·rw[zF za,if_neg za];rfl
theorem UN(l:List Int)(f:Int):cE (l++ [f])=cE l|||cE [f]:=by simp [cE,zb5]
theorem UO(l:List Int)(f:Int):cK (l++ [f])=cK l|||cK [f]:=by simp [cK,zb5]
theorem TM(fs:List Int)(f:Int):(cE fs&&&cE [f]=0/\cK fs&&&cK [f]=0)↔¬(f∈fs/\jh f=true):=by
 constructor
 ·rintro⟨h1,h2⟩ ⟨h3,h4⟩;have:=Xq (cE fs) (cK fs) (cE [f]) (cK [f]) f;rw[h1,h2,Uj,yr,yr,h4] at this;simp [h3] at this
 ·intro h;refine zss (YC (oK fs)) (YC (pZ fs)) (by decide) (by decide) λn _ _=> ?_;rw[Uj,Xq,yr,yr];by_cases e:n=f
  ·subst e;cases hr:jh n with
   |false=>simp
   |true=>have:n∉fs:=λhm=>h ⟨hm,hr⟩;simp [this]
  ·simp [e]
theorem Wx(x y:Nat):(decide (((x:Nat):Int)=0)&&(decide (((y:Nat):Int)=0)&&true))=decide (x=0/\y=0):=by rw[Bool.and_true,<-Bool.decide_and];exact decide_eq_decide.2 (by omega)
theorem SY{s:zg}(h:jw s){no:Int}(hh:bC s no=true):jh no=true:=by unfold bC gM at hh;obtain⟨x,hx⟩:=Option.isSome_iff_exists.1 hh;have h1:=zdW hx;have h2:=zaV hx;have h3:=zgk (h.2.2.2.1 x h2);have h4:x.1=no:=of_decide_eq_true h1;unfold jh;exact zT (by omega)
theorem afj{r:aS}{a b:zg}(h:dS r a b=0):dQ r a b=false:=by
 unfold dS at h;cases hc:(decide (r.1<1)||decide ((5:Int)<r.1)) with
 |true=>rw[hc] at h;simp at h
 |false=>
  rw[hc] at h;cases he:dQ r a b with
  |false=>rfl
  |true=>rw[he] at h;simp at h
theorem amU{r:aS}{a b:zg}(ha:jw a)(hb:jw b)(h:dS r a b=0):(r.2.1≠0->jh r.2.1=true)/\(r.2.2.1≠0->jh r.2.2.1=true):=by
 have he:=afj h;unfold dQ at he;rw[za8] at he;refine⟨λhz=> ?_,λhz=> ?_⟩
 ·by_cases k:r.1=3
  ·rw[zT k,zF hz] at he;simp at he
  ·rw[zF k] at he;exact SY ha (by simpa using he.1)
 ·by_cases k:r.1=2
  ·rw[zT k,zF hz] at he;simp at he
  ·rw[zF k] at he;exact SY hb (by simpa using he.2)
def fY(l:List aS):List Int:=l.map λq=>q.2.1
def ub(l:List aS):List Int:=l.map λq=>q.2.2.1
theorem VS:jh 0=false:=by decide
theorem ajh(prev:List aS)(r:aS)(h1:r.2.1≠0->jh r.2.1=true)(h2:r.2.2.1≠0->jh r.2.2.1=true):
 prev.any (λq=>lG q r)=(!decide (¬(r.2.1∈fY prev/\jh r.2.1=true))|| !decide (¬(r.2.2.1∈ub prev/\jh r.2.2.1=true))):=by
 have e:prev.any (λq=>lG q r)=true↔((r.2.1∈fY prev/\jh r.2.1=true)\/(r.2.2.1∈ub prev/\jh r.2.2.1=true)):=by
  rw[zb0];unfold lG fY ub;simp only[zau];constructor
  ·rintro⟨q,hq,h⟩;simp only[zcJ,nd,Bool.not_eq_true',decide_eq_false_iff_not,decide_eq_true_eq] at h;rcases h with⟨g1,g2⟩|⟨g1,g2⟩
   ·exact .inl ⟨⟨q,hq,g2⟩,h1 (by rw[<-g2];exact g1)⟩
   ·exact .inr ⟨⟨q,hq,g2⟩,h2 (by rw[<-g2];exact g1)⟩
  ·rintro(⟨⟨q,hq,g⟩,hr⟩|⟨⟨q,hq,g⟩,hr⟩)
   ·refine⟨q,hq,?_⟩;have:q.2.1≠0:=λe=>by rw[<-g,e,VS] at hr;cases hr
    rw[zF this,zT g];rfl
   ·refine⟨q,hq,?_⟩;have:q.2.2.1≠0:=λe=>by rw[<-g,e,VS] at hr;cases hr
    rw[zF this,zT g];simp
 cases hb:prev.any (λq=>lG q r) with
 |true=>
  rcases e.1 hb with h|h
  ·rw[zF (λhn=>hn h)];rfl
  ·rw[show decide (¬(r.2.2.1∈ub prev/\jh r.2.2.1=true))=false from zF (λhn=>hn h)];simp
 |false=>
  have hn:=λh=>(by rw[hb] at e;exact absurd (e.2 h) (by simp):False)
  rw[zT (show¬(r.2.1∈fY prev/\jh r.2.1=true) from λh=>hn (.inl h)),zT (show¬(r.2.2.1∈ub prev/\jh r.2.2.1=true) from λh=>hn (.inr h))];rfl
abbrev S2:=Int×Int×Unit
def Eu(l:List Int):S2:=((cE l:Int),(cK l:Int),())
theorem UM(a b:zg)(ha:a.2.2.1.length<=maxLen)(hb:b.2.2.1.length<=maxLen)(oa:jw a)(ob:jw b):∀(l:List aS) (i:Int) (prev:List aS),(∀r∈l,eH r)->
 aV (λi (x:aS) (s:S2×S2) K=>((pq x a b).bind λr3=>(bif(!decide (r3=0)) then some (Sum.inl (r3,(3:Int),i)) else((xO ([x.2.1]:List Int)).bind λr4=>((xO ([x.2.2.1]:List Int)).bind λr5=>((uw s.1 r4).bind λr6=>(bif(!(decide (r6.1=0)&&(decide (r6.2.1=0)&&true))) then some (Sum.inl ((10:Int),(3:Int),i)) else((uw s.2 r5).bind λr7=>(bif(!(decide (r7.1=0)&&(decide (r7.2.1=0)&&true))) then some (Sum.inl ((10:Int),(3:Int),i)) else((vT s.1 r4).bind λr8=>((vT s.2 r5).bind λr9=>K (r8,r9)))))))))))) (λ_=>some (Sum.inr ())) l i (Eu (fY prev),Eu (ub prev))=Cg (p6 a b prev l i)
 | [],i,prev,_=>rfl
 |r::l,i,prev,h=>by
  simp only[aV,p6];rw[adH r a b (h r IS) ha hb,ir];by_cases z:dS r a b=0
  ·rw[zT z,if_pos z];simp only[ab,zD];obtain⟨i1,i2⟩:=amU oa ob z;have pI:=ajh prev r i1 i2;rw[CU _ (by simp [zj]),ir,CU _ (by simp [zj]),ir];unfold Eu;rw[Wy _ _ _ _ (oK _) (pZ _) (oK _) (pZ _),ir];dsimp only;rw[Wx,decide_eq_decide.2 (TM (fY prev) r.2.1)];by_cases c1:¬(r.2.1∈fY prev/\jh r.2.1=true)
   ·rw[zT c1] at pI⊢;simp only[ab,zD];rw[Wy _ _ _ _ (oK _) (pZ _) (oK _) (pZ _),ir];dsimp only;rw[Wx,decide_eq_decide.2 (TM (ub prev) r.2.2.1)];by_cases c2:¬(r.2.2.1∈ub prev/\jh r.2.2.1=true)
    ·rw[zT c2] at pI⊢;rw[pI];simp only[ab,zD,zb2];rw[if_neg (by simp),zgs _ _ _ _ (oK _) (pZ _) (oK _) (pZ _),ir,zgs _ _ _ _ (oK _) (pZ _) (oK _) (pZ _),ir];have:=UM a b ha hb oa ob l (i+1) (prev++ [r]) (λq hq=>h q (Cs _ hq));rw[show fY (prev++ [r])=fY prev++ [r.2.1] by simp [fY],show ub (prev++ [r])=ub prev++ [r.2.2.1] by simp [ub]] at this;unfold Eu at this;rw[UN,UO,UN,UO] at this;exact this
    ·rw[zF c2] at pI⊢;rw[pI];rfl
   ·rw[zF c1] at pI⊢;rw[pI];rfl
  ·rw[zF z,if_neg z];rfl
theorem adI(m:Map)(a b:zg)(ha:a.2.2.1.length<=maxLen)(hb:b.2.2.1.length<=maxLen):Oi af ([a,b]:List zg) ((aa ([a,b]:List zg)):Int) 0 m a b=some (if(ij a).1=0 then(if(ij b).1=0 then .inr (m,a,b) else .inl (1,1,1,m,a,b)) else .inl (1,1,0,m,a,b)):=by
 obtain⟨k,hk⟩:=Ew;rw[hk];simp only[Oi,zs3];have w0:∀{R:Type} (x:Option R),zd 0 ([a,b]:List zg).length x=x:=λx=>zl (by omega) (by simp);have w1:∀{R:Type} (x:Option R),zd 1 ([a,b]:List zg).length x=x:=λx=>zl (by omega) (by simp);have e1:zW zI (0+1)=1:=rfl;have e2:zW zI (1+1)=2:=rfl;have d0:decide ((0:Int)<(([a,b]:List zg).length:Int))=true:=rfl;have d1:decide ((1:Int)<(([a,b]:List zg).length:Int))=true:=rfl;have d2:decide ((2:Int)<(([a,b]:List zg).length:Int))=false:=rfl;rw[d0,zC,w0,show an ([a,b]:List zg) (0:Int).toNat ((0:Int),(0:Int),([]:List Spec),())=a from rfl,Zj a ha,ir];by_cases za:(ij a).1=0
 ·rw[zT za,if_pos za];simp only[ab,zD];rw[e1,d1,zC,w1,show an ([a,b]:List zg) (1:Int).toNat ((0:Int),(0:Int),([]:List Spec),())=b from rfl,Zj b hb,ir];by_cases zb:(ij b).1=0
  ·rw[zT zb,if_pos zb];simp only[ab,zD];rw[e2,d2,zD]
  ·rw[zF zb,if_neg zb];rfl
 ·rw[zF za,if_neg za];rfl
abbrev dI:aS:=(0,0,0,bs [],[],())
theorem z99(m:Map)(a b:zg)(h:dq m)(ha:a.2.2.1.length<=maxLen)(hb:b.2.2.1.length<=maxLen):tf m a b=some (dF m a b):=by
 have h1:=h.m5.len;have h2:=h.len;unfold tf zs2 dF;dsimp only;rw[adI m a b ha hb,ir];by_cases za:(ij a).1=0
 ·rw[if_pos za,if_pos za];by_cases zb:(ij b).1=0
  ·rw[if_pos zb,if_pos zb];simp only[zaA];unfold zs4;by_cases hm:256<m.1.length
   ·rw[zT (by omega),if_pos hm];rfl
   ·rw[zF (by omega),if_neg hm,zD];dsimp only;rw[aiC m a b h.m5];unfold oc;cases fg a b [] m.1 0 with
    |some e=>rfl
    |none=>
     simp only[ir,zaA];unfold zs5;by_cases hr:256<m.2.1.length
     ·rw[zT (by omega),if_pos hr];rfl
     ·rw[zF (by omega),if_neg hr,zD];dsimp only;have:=cn dI m.2.1 (by rw[zj];omega) (λi (x:aS) (s:S2×S2) K=>((pq x a b).bind λr3=>(bif(!decide (r3=0)) then some (Sum.inl (r3,(3:Int),i)) else((xO ([x.2.1]:List Int)).bind λr4=>((xO ([x.2.2.1]:List Int)).bind λr5=>((uw s.1 r4).bind λr6=>(bif(!(decide (r6.1=0)&&(decide (r6.2.1=0)&&true))) then some (Sum.inl ((10:Int),(3:Int),i)) else((uw s.2 r5).bind λr7=>(bif(!(decide (r7.1=0)&&(decide (r7.2.1=0)&&true))) then some (Sum.inl ((10:Int),(3:Int),i)) else((vT s.1 r4).bind λr8=>((vT s.2 r5).bind λr9=>K (r8,r9)))))))))))) (λ_=>some (Sum.inr ()))
       (λk i s=>ze8 k m.2.1 (m.2.1.length:Int) i a b s.1 s.2) (λk i s=>rfl) (Eu (fY []),Eu (ub []))
      have h3:=UM a b ha hb ((Ci a).1 za) ((Ci b).1 zb) m.2.1 0 [] h.rules;rw[h3] at this;have h4:Eu (fY [])=((0:Int),(0:Int),()):=rfl;have h5:Eu (ub [])=((0:Int),(0:Int),()):=rfl;rw[h4,h5] at this;rw[this];unfold Cg;cases p6 a b [] m.2.1 0<;>rfl
  ·rw[if_neg zb,if_neg zb];rfl
 ·rw[if_neg za,if_neg za];rfl
instance aac:DecidableEq aS:=λx y=>decidable_of_iff ((decide (x.1=y.1)&&(decide (x.2.1=y.2.1)&&(decide (x.2.2.1=y.2.2.1)&&(decide (x.2.2.2.1=y.2.2.2.1)&&decide (x.2.2.2.2.1=y.2.2.2.2.1)))))=true) (by obtain⟨a1,a2,a3,a4,a5,u⟩:=x;obtain⟨b1,b2,b3,b4,b5,v⟩:=y;simp)
instance aaN:DecidableEq Map:=λx y=>decidable_of_iff ((decide (x.1=y.1)&&decide (x.2.1=y.2.1))=true) (by obtain⟨a1,a2,u⟩:=x;obtain⟨b1,b2,v⟩:=y;simp)
def xr(r:aS):aS:=(r.1,r.2.2.1,r.2.1,r.2.2.2.1,mC r.2.2.2.2.1,())
def St(m:Map):Map:=(mC m.1,m.2.1.map xr,())
abbrev R5:Map:=([],[],())
theorem afC(r:aS)(h:eH r):pc r=some r:=by unfold pc znq;rw[Tr _ h.fj.len];rfl
theorem TS:∀(l:List aS) (i:Int) (s:Map×Map),(∀r∈l,eH r)->s.2.2.1.length+l.length<=1099511627776->
 aV (λi (x:aS) (s:Map×Map) K=>((pc x).bind λr2=>(bif(decide ((s.2.2.1.length+(aa ([r2]:List aS)))*64<=140737488355328)) then K (s.1,(s.2.1,(s.2.2.1++([r2]:List aS)),())) else none))) (λs=>some s) l i s=some (s.1,(s.2.1,s.2.2.1++l,()))
 | [],i,s,_,_=>by simp only[aV,zay]
 |r::l,i,s,h,hl=>by simp only[ls] at hl;simp only[aV];rw[afC r (h r IS),ir,zT (by simp;omega),zC];have:=TS l (i+1) (s.1,(s.2.1,(s.2.2.1++ [r]),())) (λq hq=>h q (Cs _ hq)) (by simp;omega);refine Eq.trans this ?_;simp
theorem Ts(m:Map)(h:dq m):vd m=some m:=by
 have hl:=h.len;unfold vd zo0;dsimp only;rw[Tr _ h.m5.len,ir];have:=cn dI m.2.1 (by rw[zj];omega) (λi (x:aS) (s:Map×Map) K=>((pc x).bind λr2=>(bif(decide ((s.2.2.1.length+(aa ([r2]:List aS)))*64<=140737488355328)) then K (s.1,(s.2.1,(s.2.2.1++([r2]:List aS)),())) else none))) (λs=>some s)
  (λk i s=>ZJ k i m s.1 s.2) (λk i s=>rfl) (R5,(m.1,[],()))
 rw[TS _ _ _ h.rules (by simp;omega)] at this;rw[this];rfl
structure ars(r:aS)(a b:zg):Prop where
 lo:¬r.1<1
 hi:¬(5:Int)<r.1
 ends:dQ r a b=false
 text:j6 r=false
 kind:lr r (aX a r.2.1) (aX b r.2.2.1)=0
theorem z9g{a b:zg}:∀{l:List bG} {seen:List ByteArray} {i:Int},fg a b seen l i=none↔(∀p∈l,oV p a b=true)/\ko seen l i=none
 | [],seen,i=>by simp [fg,ko]
 |p::r,seen,i=>by
  simp only[fg,ko,If,forall_eq_or_imp];cases ht:oV p a b with
  |false=>simp
  |true=>
   rw[if_pos rfl];by_cases hm:p.1∈seen
   ·simp [hm]
   ·rw[if_neg hm,if_neg hm,z9g];simp
def N0:List aS->List aS->Prop
 |_,[]=>True
 |prev,r::l=>prev.any (λq=>lG q r)=false/\N0 (prev++ [r]) l
theorem z8l{a b:zg}:∀{l:List aS} {prev:List aS} {i:Int},p6 a b prev l i=none↔(∀r∈l,dS r a b=0)/\N0 prev l
 | [],prev,i=>by simp [p6,N0]
 |r::l,prev,i=>by
  simp only[p6,N0,If,forall_eq_or_imp];by_cases z:dS r a b=0
  ·rw[if_pos z];cases hp:prev.any (λq=>lG q r) with
   |true=>simp
   |false=>rw[if_neg (by simp),z8l];simp [z]
  ·rw[if_neg z];simp [z]
theorem Ta{a b:zg}:∀{l:List bG} {seen:List ByteArray} {i:Int} {e:Int×Int},fg a b seen l i=some e->e.1≠0
 |p::r,seen,i,e,h=>by
  simp only[fg] at h;split at h
  ·split at h
   ·cases h;simp
   ·exact Ta h
  ·cases h;simp
theorem ztt{a b:zg}:∀{l:List aS} {prev:List aS} {i:Int} {e:Int×Int},p6 a b prev l i=some e->e.1≠0
 |r::l,prev,i,e,h=>by
  simp only[p6] at h;split at h
  ·split at h
   ·cases h;simp
   ·exact ztt h
  ·rename_i hz;cases h;exact hz
structure fu(m:Map)(a b:zg):Prop where
 sa:(ij a).1=0
 sb:(ij b).1=0
 R3:m.1.length<=256
 typed:∀p∈m.1,oV p a b=true
 dup:ko [] m.1 0=none
 R4:m.2.1.length<=256
 rules:∀r∈m.2.1,dS r a b=0
 xt:N0 [] m.2.1
theorem zwa{m:Map}{a b:zg}:(dF m a b).1=0↔fu m a b:=by
 constructor
 ·intro h;unfold dF at h;split at h
  ·split at h
   ·rename_i h1 h2;split at h
    ·cases h
    ·rename_i h3;split at h
     ·rename_i e he;exact absurd h (Ta he)
     ·rename_i hm;split at h
      ·cases h
      ·rename_i h4;split at h
       ·rename_i e he;exact absurd h (ztt he)
       ·rename_i hr;obtain⟨g1,g2⟩:=z9g.1 hm;obtain⟨g3,g4⟩:=z8l.1 hr;exact⟨h1,h2,by omega,g1,g2,by omega,g3,g4⟩
   ·cases h
  ·cases h
 ·intro h;unfold dF;have e1:=z9g.2 ⟨h.typed,h.dup⟩;have e2:p6 a b [] m.2.1 0=none:=z8l.2 ⟨h.rules,h.xt⟩;have l1:=h.R3;have l2:=h.R4;rw[if_pos h.sa,if_pos h.sb,if_neg (by omega),e1];simp only;rw[if_neg (by omega),e2]
theorem fu.eq{m:Map}{a b:zg}(h:fu m a b):dF m a b=(0,0,0):=by unfold dF;have e1:=z9g.2 ⟨h.typed,h.dup⟩;have e2:p6 a b [] m.2.1 0=none:=z8l.2 ⟨h.rules,h.xt⟩;have l1:=h.R3;have l2:=h.R4;rw[if_pos h.sa,if_pos h.sb,if_neg (by omega),e1];simp only;rw[if_neg (by omega),e2]
theorem eZ.turn{l:List bG}(h:eZ l):eZ (mC l):=⟨by rw[ajf];exact h.len,λp hp=>by unfold mC at hp;obtain⟨q,hq,rfl⟩:=zau.1 hp;exact⟨(h.sz q hq).2,(h.sz q hq).1⟩⟩
theorem dq.turn{m:Map}(h:dq m):dq (St m):=⟨h.m5.turn,by show(m.2.1.map xr).length<=_;rw[zaR];exact h.len,λr hr=>by obtain⟨q,hq,rfl⟩:=zau.1 (show r∈m.2.1.map xr from hr);exact⟨(h.rules q hq).text,(h.rules q hq).fj.turn⟩⟩
theorem amA(l:List aQ)(no:Int)(t:ByteArray):(m4 l no t).length=l.length+1:=by
 unfold m4;rcases Y1 no l 0 (zaT _) with⟨h1,_⟩|h1
 ·rw[h1,zT (by omega:(-1:Int)<0),zC,th];rfl
 ·rw[zF (by omega:¬cz no l 0<0),zD,th,Of,ls,zaD];omega
theorem zc9(m:bu)(no:Int)(t:ByteArray):(dT m no t).2.1.length<=m.2.1.length+1:=by show(m4 (eJ m.2.1 no) no t).length<=_;rw[amA];have:=zli m.2.1 no;omega
theorem z234(m:Map)(t:ByteArray)(h:m.1.length<=maxLen):vS m t=some (zt m.1 t):=by
 unfold vS zsd;dsimp only;have:=cn jY m.1 h (λi (x:bG) (s:Unit) K=>bif decide (x.1=t) then some (Sum.inl (x.2.1,true)) else K s) (λ_=>some (Sum.inr ()))
  (λk i s=>zec k t m.1 (m.1.length:Int) i) (λk i s=>rfl) ()
 rw[this,zf3];unfold zt;cases m.1.find? λp=>decide (p.1=t)<;>rfl
def eK(m:Map)(no:Int):Option aS:=m.2.1.find? λr=>decide (r.2.1=no)
def Et(o:Option aS):Option (Sum (Bool×aS) aS):=some (match o with
 |some r=> .inl (true,r)
 |none=> .inr dI)
theorem VE(no:Int):∀(l:List aS) (i:Int),aV (λi (x:aS) (s:Unit) K=>(bif(decide (x.2.1=no)) then some (Sum.inl (true,x)) else K s)) (λ_=>some (Sum.inr dI)) l i ()=Et (l.find? λr=>decide (r.2.1=no))
 | [],i=>rfl
 |x::r,i=>by
  rw[aV,zbB];cases hx:decide (x.2.1=no) with
  |true=>rfl
  |false=>rw[zD];exact VE no r (i+1)
theorem ajv(m:Map)(no:Int)(h:m.2.1.length<=maxLen):pw m no=some (match eK m no with
 |some r=>(r,true)
 |none=>(dI,false)):=by
 unfold pw zsb eK;dsimp only;have:=cn dI m.2.1 h (λi (x:aS) (s:Unit) K=>(bif(decide (x.2.1=no)) then some (Sum.inl (true,x)) else K s)) (λ_=>some (Sum.inr dI))
  (λk i s=>zeb k no m.2.1 (m.2.1.length:Int) i dI) (λk i s=>rfl) ()
 rw[this,VE];unfold Et;cases m.2.1.find? λr=>decide (r.2.1=no)<;>rfl
def uh:List aS->bu->bu
 | [],out=>out
 |r::l,out=>uh l (bif decide (r.1=3) then dT out r.2.2.1 r.2.2.2.1 else out)
theorem zcg:∀(l:List aS) (out:bu),(uh l out).2.1.length<=out.2.1.length+l.length
 | [],out=>zag _
 |r::l,out=>by
  rw[uh,ls];cases decide (r.1=3) with
  |true=>rw[zC];have:=zcg l (dT out r.2.2.1 r.2.2.2.1);have:=zc9 out r.2.2.1 r.2.2.2.1;omega
  |false=>rw[zD];have:=zcg l out;omega
theorem zg8{ρ:Type}(fin:bu->Option ρ):∀(l:List aS) (i:Int) (out:bu),out.2.1.length+l.length<=1000000->
 aV (λi (x:aS) (s:bu) K=>(bif(decide (x.1=(3:Int))) then((iO s x.2.2.1 x.2.2.2.1).bind λr4=>K r4) else K s)) fin l i out=fin (uh l out)
 | [],i,out,_=>rfl
 |r::l,i,out,h=>by
  simp only[ls] at h;rw[aV,uh];cases decide (r.1=3) with
  |true=>rw[zC,zC,zfo out _ _ (by omega),zc];have:=zc9 out r.2.2.1 r.2.2.2.1;exact zg8 fin l (i+1) _ (by omega)
  |false=>rw[zD,zD];exact zg8 fin l (i+1) out (by omega)
def FB(m:Map)(b:zg):List aQ->bu->Sum (bV×bu) bu
 | [],out=> .inr out
 |v::r,out=>match eK m v.1 with
  |none=> .inl ((9,v.1,()),out)
  |some q=>bif !decide ((zz q b v.2.1).2=0) then .inl (((zz q b v.2.1).2,v.1,()),out) else FB m b r (bif !decide ((zz q b v.2.1).1.1=0) then dT out (zz q b v.2.1).1.1 (zz q b v.2.1).1.2.1 else out)
abbrev bn:bu:=(bs [],[],())
def VB(o:Sum (bV×bu) bu):Option (Sum (bu×bV×bu) (bu×bV×bu)):=some (match o with
 | .inl (f,out)=> .inl (bn,f,out)
 | .inr out=> .inr (bn,zu,out))
theorem NR{m:Map}{no:Int}{r:aS}(h:eK m no=some r):r∈m.2.1/\r.2.1=no:=⟨zaV h,by simpa using zdW h⟩
theorem zcl(m:Map)(b:zg)(hm:dq m)(hb:b.2.2.1.length<=maxLen):∀(l:List aQ) (i:Int) (out:bu),out.2.1.length+l.length<=1000000->(∀v∈l,v.2.1.size<=1099511627776)->
 aV (λi (x:aQ) (s:bu) K=>((pw m x.1).bind λr5=>(bif(!r5.2) then some (Sum.inl (bn,((9:Int),x.1,()),s)) else((po r5.1 b x.2.1).bind λr6=>(bif(!(decide (r6.2=(0:Int)))) then some (Sum.inl (bn,(r6.2,x.1,()),s)) else(bif(!(decide (r6.1.1=(0:Int)))) then((iO s r6.1.1 r6.1.2.1).bind λr7=>K r7) else K s)))))) (λs=>some (Sum.inr (bn,zu,s))) l i out=VB (FB m b l out)
 | [],i,out,_,_=>rfl
 |v::r,i,out,h,ht=>by
  simp only[ls] at h;have hl:=hm.len;have hv:=ht v IS;rw[aV,ajv m v.1 (by rw[zj];omega),zc,FB];cases hf:eK m v.1 with
  |none=>rfl
  |some q=>
   dsimp only;obtain⟨q1,_⟩:=NR hf;have qp:=(hm.rules q q1).fj.len;rw[ab,zD,adG q b v.2.1 (by rw[zj];omega) hb (by rw[zj];omega),zc];generalize zz q b v.2.1=y;cases decide (y.2=0) with
   |false=>rfl
   |true=>
    rw[ab,zD,zD];cases decide (y.1.1=0) with
    |true=>rw[ab,zD,zD];exact zcl m b hm hb r (i+1) out (by omega) (λw hw=>ht w (Cs _ hw))
    |false=>rw[GW,zC,zC,zfo out _ _ (by omega),zc];have:=zc9 out y.1.1 y.1.2.1;exact zcl m b hm hb r (i+1) _ (by omega) (λw hw=>ht w (Cs _ hw))
def p8(m:Map)(a b:zg)(x:bu):bu×bV:=
 bif !decide ((dF m a b).1=0) then(bn,(1,-1,())) else bif !decide ((fP a x).1=0) then(bn,fP a x) else bif !(zt m.1 x.1).2 then(bn,(7,0,()))
 else match FB m b x.2.1 (uh m.2.1 ((zt m.1 x.1).1,[],())) with
  | .inl (f,_)=>(bn,f)
  | .inr out=>(out,zu)
theorem ado(m:Map)(a b:zg)(x:bu)(hm:dq m)(EJ:m.2.1.length<=900000)(hx:dP x)(sB:x.2.1.length<=90000)(ha:a.2.2.1.length<=maxLen)(hb:b.2.2.1.length<=maxLen):tg m a b x=some (p8 m a b x):=by
 have hl:=hm.m5.len;unfold tg zs8 p8;rw[z99 m a b hm ha hb,zc];cases decide ((dF m a b).1=0) with
 |false=>rfl
 |true=>
  rw[ab,zD,zD,ztn a x ha hx,zc];cases decide ((fP a x).1=0) with
  |false=>rfl
  |true=>
   rw[ab,zD,zD,z234 m x.1 (by rw[zj];omega),zc];cases(zt m.1 x.1).2 with
   |false=>rfl
   |true=>
    rw[ab,zD,zD];dsimp only;have h1:=cn dI m.2.1 (by rw[zj];omega) (λi (x:aS) (s:bu) K=>(bif(decide (x.1=(3:Int))) then((iO s x.2.2.1 x.2.2.2.1).bind λr4=>K r4) else K s)) (λs=>some (m,b,x,bn,zu,s))
     (λk i s=>ze9 k m.2.1 (m.2.1.length:Int) i m b x bn zu s) (λk i s=>rfl) ((zt m.1 x.1).1,[],())
    rw[h1,zg8 _ _ _ _ (by simp;omega),zc];unfold zs9;dsimp only;have hc:=zcg m.2.1 ((zt m.1 x.1).1,[],());have hc:(uh m.2.1 ((zt m.1 x.1).1,[],())).2.1.length<=m.2.1.length:=by simpa using hc
    have h2:=cn fT x.2.1 (by rw[zj];omega) (λi (x:aQ) (s:bu) K=>((pw m x.1).bind λr5=>(bif(!r5.2) then some (Sum.inl (bn,((9:Int),x.1,()),s)) else((po r5.1 b x.2.1).bind λr6=>(bif(!(decide (r6.2=(0:Int)))) then some (Sum.inl (bn,(r6.2,x.1,()),s)) else(bif(!(decide (r6.1.1=(0:Int)))) then((iO s r6.1.1 r6.1.2.1).bind λr7=>K r7) else K s)))))) (λs=>some (Sum.inr (bn,zu,s)))
     (λk i s=>zea k x.2.1 (x.2.1.length:Int) i m b bn zu s) (λk i s=>rfl) (uh m.2.1 ((zt m.1 x.1).1,[],()))
    rw[h2,zcl m b hm hb _ _ _ (by omega) hx.oq];unfold VB;cases FB m b x.2.1 (uh m.2.1 ((zt m.1 x.1).1,[],())) with
    |inl p=>obtain⟨f,o⟩:=p;rfl
    |inr o=>rfl
abbrev kQ(l:List aQ):Prop:=l.Pairwise λx y=>x.1<y.1
def ji(no:Int)(t:ByteArray):List aQ->List aQ
 | []=>[(no,t,())]
 |x::r=>if no<x.1 then(no,t,())::x::r else x::ji no t r
theorem zti(no:Int):∀(l:List aQ) (i d:Int),0<=i->0<=d->cz no l (i+d)=if cz no l i<0 then-1 else cz no l i+d
 | [],i,d,_,_=>by unfold cz;rw[if_pos (by omega)]
 |x::r,i,d,hi,hd=>by
  unfold cz;by_cases hx:no<x.1
  ·rw[if_pos hx,if_pos hx,if_neg (by omega)]
  ·rw[if_neg hx,if_neg hx,show i+d+1=(i+1)+d by omega];exact zti no r (i+1) d (by omega) hd
theorem zsn(no:Int)(t:ByteArray):∀l:List aQ,m4 l no t=ji no t l
 | []=>rfl
 |x::r=>by
  have ih:=zsn no t r;unfold m4 at ih⊢;unfold ji;by_cases hx:no<x.1
  ·have:cz no (x::r) 0=0:=by unfold cz;rw[if_pos hx]
   rw[this,if_pos hx];rfl
  ·rw[if_neg hx,<-ih];have h0:cz no (x::r) 0=cz no r (0+1):=by show(if no<x.1 then(0:Int) else cz no r (0+1))=_;rw[if_neg hx]
   rw[h0,zti no r 0 1 (by omega) (by omega)];rcases Y1 no r 0 (zaT _) with⟨h1,_⟩|h1
   ·rw[h1,if_pos (by omega)];rfl
   ·rw[if_neg (by omega),zF (by omega:¬cz no r 0+1<0),zF (by omega:¬cz no r 0<0),zD,zD];have:(cz no r 0+1).toNat=(cz no r 0).toNat+1:=by omega
    rw[this];rfl
theorem zw9(no:Int)(t:ByteArray)(v:aQ):∀l:List aQ,v∈ji no t l↔v=(no,t,())\/v∈l
 | []=>by simp [ji]
 |x::r=>by
  unfold ji;split
  ·simp
  ·rw[If,zw9 no t v r,If];constructor
   ·rintro(h|h|h)
    ·exact .inr (.inl h)
    ·exact .inl h
    ·exact .inr (.inr h)
   ·rintro(h|h|h)
    ·exact .inr (.inl h)
    ·exact .inl h
    ·exact .inr (.inr h)
theorem VU(no:Int)(t:ByteArray):∀{l:List aQ},kQ l->(∀x∈l,x.1≠no)->kQ (ji no t l)
 | [],_,_=>by simp [ji,kQ]
 |x::r,h,hn=>by
  have hx:=hn x IS;rw[kQ,zak] at h;unfold ji;split
  ·rename_i ap;refine zak.2 ⟨λy hy=> ?_,zak.2 h⟩;rcases If.1 hy with rfl|hy
   ·exact ap
   ·have:=h.1 y hy;show no<y.1;omega
  ·rename_i ap;refine zak.2 ⟨λy hy=> ?_,VU no t h.2 (λz hz=>hn z (Cs _ hz))⟩;rcases(zw9 no t y r).1 hy with rfl|hy
   ·show x.1<no;omega
   ·exact h.1 y hy
theorem TZ{l:List aQ}{no:Int}{v:aQ}:v∈eJ l no↔v∈l/\v.1≠no:=by unfold eJ;rw[zab];simp
theorem zca(m:bu)(no:Int)(t:ByteArray)(v:aQ):v∈(dT m no t).2.1↔v=(no,t,())\/(v∈m.2.1/\v.1≠no):=by show v∈m4 (eJ m.2.1 no) no t↔_;rw[zsn,zw9,TZ]
theorem zms{m:bu}(h:kQ m.2.1)(no:Int)(t:ByteArray):kQ (dT m no t).2.1:=by show kQ (m4 (eJ m.2.1 no) no t);rw[zsn];exact VU no t (h.filter _) (λx hx=>(TZ.1 hx).2)
theorem XO:∀{l r:List aQ},kQ l->kQ r->(∀v,v∈l↔v∈r)->l=r
 | [],[],_,_,_=>rfl
 | [],y::r,_,_,h=>by have:=(h y).2 IS;cases this
 |x::l,[],_,_,h=>by have:=(h x).1 IS;cases this
 |x::l,y::r,hl,hr,h=>by
  have lQ:=zak.1 hl;have hr':=zak.1 hr;have e:x=y:=by
   rcases If.1 ((h x).1 IS) with e|e
   ·exact e
   ·rcases If.1 ((h y).2 IS) with e2|e2
    ·exact e2.symm
    ·have a1:=hr'.1 x e;have a2:=lQ.1 y e2;omega
  subst e;congr 1;refine XO lQ.2 hr'.2 λv=>⟨λhv=> ?_,λhv=> ?_⟩
  ·rcases If.1 ((h v).1 (Cs _ hv)) with e|e
   ·subst e;have:=lQ.1 _ hv;omega
   ·exact e
  ·rcases If.1 ((h v).2 (Cs _ hv)) with e|e
   ·subst e;have:=hr'.1 _ hv;omega
   ·exact e
def uQ:List aQ->bu->bu
 | [],out=>out
 |v::l,out=>uQ l (dT out v.1 v.2.1)
def kF(l:List aQ):Prop:=l.Pairwise λx y=>x.1≠y.1
theorem ztq:∀(l:List aQ) (out:bu),(uQ l out).1=out.1
 | [],out=>rfl
 |v::l,out=>ztq l _
theorem z131:∀(l:List aQ) {out:bu},kQ out.2.1->kQ (uQ l out).2.1
 | [],out,h=>h
 |v::l,out,h=>z131 l (zms h v.1 v.2.1)
theorem z130:∀(l:List aQ) (out:bu),kF l->(∀v∈l,∀w∈out.2.1,v.1≠w.1)->∀v,v∈(uQ l out).2.1↔v∈out.2.1\/v∈l
 | [],out,_,_,v=>by simp [uQ]
 |x::l,out,ha,hd,v=>by
  have EB:=zak.1 ha;have hx:(x.1,x.2.1,())=x:=rfl;rw[uQ,z130 l _ EB.2 (λy hy w hw=> ?_) v,zca,hx,If]
  ·constructor
   ·rintro((h|h)|h)
    ·exact .inr (.inl h)
    ·exact .inl h.1
    ·exact .inr (.inr h)
   ·rintro(h|h|h)
    ·exact .inl (.inr ⟨h,λe=>hd x IS v h e.symm⟩)
    ·exact .inl (.inl h)
    ·exact .inr h
  ·rcases(zca out x.1 x.2.1 w).1 hw with e|e
   ·rw[e];exact λh=>EB.1 y hy h.symm
   ·exact hd y (Cs _ hy) w e.1
theorem zgq:∀(l r:List aQ) (out:bu),uQ (l++r) out=uQ r (uQ l out)
 | [],r,out=>rfl
 |v::l,r,out=>zgq l r _
def iG(l:List aS):List aQ:=(l.filter λr=>decide (r.1=3)).map λr=>(r.2.2.1,r.2.2.2.1,())
theorem zch:∀(l:List aS) (out:bu),uh l out=uQ (iG l) out
 | [],out=>rfl
 |r::l,out=>by
  rw[uh];unfold iG;rw[zbO];cases decide (r.1=3) with
  |true=>exact zch l _
  |false=>exact zch l _
def js(m:Map)(b:zg):List aQ->Sum bV (List aQ)
 | []=> .inr []
 |v::r=>match eK m v.1 with
  |none=> .inl (9,v.1,())
  |some q=>bif !decide ((zz q b v.2.1).2=0) then .inl ((zz q b v.2.1).2,v.1,()) else match js m b r with
   | .inl f=> .inl f
   | .inr ys=> .inr ((zz q b v.2.1).1::ys)
def cI(l:List aQ):List aQ:=l.filter λv=> !decide (v.1=0)
theorem zck(m:Map)(b:zg):∀(l:List aQ) (out:bu),(∃f o,FB m b l out= .inl (f,o)/\js m b l= .inl f)\/(∃ys,FB m b l out= .inr (uQ (cI ys) out)/\js m b l= .inr ys)
 | [],out=> .inr ⟨[],rfl,rfl⟩
 |v::r,out=>by
  rw[FB,js];cases eK m v.1 with
  |none=>exact .inl ⟨_,_,rfl,rfl⟩
  |some q=>
   dsimp only;generalize zz q b v.2.1=y;cases decide (y.2=0) with
   |false=>exact .inl ⟨_,_,rfl,rfl⟩
   |true=>
    rw[ab,zD,zD];cases hz:decide (y.1.1=0) with
    |true=>
     rw[ab,zD];rcases zck m b r out with⟨f,o,h1,h2⟩|⟨ys,h1,h2⟩
     ·exact .inl ⟨f,o,h1,by rw[h2]⟩
     ·refine .inr ⟨y.1::ys,?_,by rw[h2]⟩;rw[h1];have:cI (y.1::ys)=cI ys:=by unfold cI;rw[zbO,hz];rfl
      rw[this]
    |false=>
     rw[GW,zC];rcases zck m b r (dT out y.1.1 y.1.2.1) with⟨f,o,h1,h2⟩|⟨ys,h1,h2⟩
     ·exact .inl ⟨f,o,h1,by rw[h2]⟩
     ·refine .inr ⟨y.1::ys,?_,by rw[h2]⟩;rw[h1];have:cI (y.1::ys)=y.1::cI ys:=by unfold cI;rw[zbO,hz];rfl
      rw[this];rfl
theorem Y0{m:Map}{b:zg}:∀{l ys:List aQ},js m b l= .inr ys->∀y∈ys,∃v∈l,∃q,eK m v.1=some q/\(zz q b v.2.1).2=0/\y=(zz q b v.2.1).1
 | [],ys,h,y,hy=>by cases h;cases hy
 |v::r,ys,h,y,hy=>by
  rw[js] at h;cases hf:eK m v.1 with
  |none=>rw[hf] at h;cases h
  |some q=>
   rw[hf] at h;dsimp only at h;cases hz:decide ((zz q b v.2.1).2=0) with
   |false=>rw[hz] at h;cases h
   |true=>
    rw[hz,ab,zD] at h;cases hr:js m b r with
    |inl f=>rw[hr] at h;cases h
    |inr zs=>
     rw[hr] at h;cases h;rcases If.1 hy with rfl|hy
     ·exact⟨v,IS,q,hf,of_decide_eq_true hz,rfl⟩
     ·obtain⟨w,hw,q',g⟩:=Y0 hr y hy;exact⟨w,Cs _ hw,q',g⟩
theorem afw(x y:aS):lG x y=lG y x:=by
 unfold lG;have e1:(!decide (x.2.1=0)&&decide (x.2.1=y.2.1))=(!decide (y.2.1=0)&&decide (y.2.1=x.2.1)):=by
  by_cases h:x.2.1=y.2.1
  ·rw[h]
  ·rw[zF h,zF (show¬y.2.1=x.2.1 from λe=>h e.symm),zbW,zbW]
 have e2:(!decide (x.2.2.1=0)&&decide (x.2.2.1=y.2.2.1))=(!decide (y.2.2.1=0)&&decide (y.2.2.1=x.2.2.1)):=by
  by_cases h:x.2.2.1=y.2.2.1
  ·rw[h]
  ·rw[zF h,zF (show¬y.2.2.1=x.2.2.1 from λe=>h e.symm),zbW,zbW]
 rw[e1,e2]
theorem zm5:∀{l prev:List aS},N0 prev l->l.Pairwise (λx y=>lG x y=false)/\∀p∈prev,∀x∈l,lG p x=false
 | [],prev,h=>⟨zcK,λ_ _ x hx=>by cases hx⟩
 |r::l,prev,h=>by
  obtain⟨h1,h2⟩:=h;obtain⟨i1,i2⟩:=zm5 h2;have hp:∀p∈prev,lG p r=false:=λp hp=>by have:=List.any_eq_false.1 h1 p hp;simpa using this
  refine⟨zak.2 ⟨λy hy=>i2 r (by simp) y hy,i1⟩,λp hp' x hx=> ?_⟩;rcases If.1 hx with rfl|hx
  ·exact hp p hp'
  ·exact i2 p (by simp [hp']) x hx
theorem zmo{x y:aS}(h:lG x y=false)(hx:x.2.2.1≠0):x.2.2.1≠y.2.2.1:=by intro e;unfold lG at h;rw[za8] at h;have:=h.2;rw[zF hx,zT e] at this;cases this
theorem V8{l:List aS}(h:l.Pairwise λx y=>lG x y=false):∀x∈l,∀y∈l,x≠y->lG x y=false:=by
 induction l with
 |nil=>intro x hx;cases hx
 |cons r l ih=>
  obtain⟨h1,h2⟩:=zak.1 h;intro x hx y hy bR;rcases If.1 hx with e1|hx1
  ·rcases If.1 hy with e2|hy1
   ·exact absurd (e1.trans e2.symm) bR
   ·rw[e1];exact h1 y hy1
  ·rcases If.1 hy with e2|hy1
   ·rw[afw,e2];exact h1 x hx1
   ·exact ih h2 x hx1 y hy1 bR
theorem Fi{s:zg}:∀{l:List aQ} {last:Int},sO s l last=none↔(∀v∈l,bC s v.1=true/\bJ (aX s v.1) v.2.1=0)/\kQ l/\∀v∈l,last<v.1
 | [],last=>by simp [sO,kQ]
 |x::r,last=>by
  rw[sO];by_cases h1:x.1<=last
  ·rw[zT h1,zC];refine⟨λh=>(by cases h),λh=> ?_⟩;have:=h.2.2 x IS;omega
  rw[zF h1,zD];cases h2:bC s x.1 with
  |false=>refine⟨λh=>(by cases h),λh=> ?_⟩;have:=(h.1 x IS).1;rw[h2] at this;cases this
  |true=>
   rw[ab,zD];by_cases h3:bJ (aX s x.1) x.2.1=0
   ·rw[zT h3,ab,zD,Fi];constructor
    ·rintro⟨g1,g2,g3⟩;refine⟨λv hv=> ?_,zak.2 ⟨g3,g2⟩,λv hv=> ?_⟩
     ·rcases If.1 hv with rfl|hv
      ·exact⟨h2,h3⟩
      ·exact g1 v hv
     ·rcases If.1 hv with rfl|hv
      ·omega
      ·have:=g3 v hv;omega
    ·rintro⟨g1,g2,g3⟩;have g2:=zak.1 g2;exact⟨λv hv=>g1 v (Cs _ hv),g2.2,g2.1⟩
   ·rw[zF h3,GW,zC];refine⟨λh=>(by cases h),λh=> ?_⟩;exact absurd (h.1 x IS).2 h3
theorem zlq{s:zg}:∀{l:List aQ} {last:Int} {f:bV},sO s l last=some f->f.1≠0
 | [],last,f,h=>by cases h
 |x::r,last,f,h=>by
  rw[sO] at h;cases h1:decide (x.1<=last) with
  |true=>rw[h1] at h;cases h;exact(by decide:(11:Int)≠0)
  |false=>
   rw[h1,zD] at h;cases h2:bC s x.1 with
   |false=>rw[h2] at h;cases h;exact(by decide:(9:Int)≠0)
   |true=>
    rw[h2,ab,zD] at h;by_cases h3:bJ (aX s x.1) x.2.1=0
    ·rw[zT h3,ab,zD] at h;exact zlq h
    ·rw[zF h3,GW,zC] at h;cases h;exact h3
structure kc(s:zg)(m:bu):Prop where
 gW:(ij s).1=0
 right:fU m.1=true
 ver:eC m.1=s.2.1
 jA:sO s m.2.1 0=none
theorem Zs{s:zg}{m:bu}:(fP s m).1=0↔kc s m:=by
 unfold fP;by_cases h1:(ij s).1=0
 ·rw[zT h1,ab,zD];cases h2:fU m.1 with
  |false=>exact⟨λh=>absurd h (show¬(7:Int)=0 by decide),λh=>by have:=h.right;rw[h2] at this;cases this⟩
  |true=>
   rw[ab,zD];by_cases h3:eC m.1=s.2.1
   ·rw[zT h3,ab,zD];cases h4:sO s m.2.1 0 with
    |none=>exact⟨λ_=>⟨h1,h2,h3,h4⟩,λ_=>rfl⟩
    |some f=>exact⟨λh=>absurd h (zlq h4),λh=>by have:=h.jA;rw[h4] at this;cases this⟩
   ·rw[zF h3];exact⟨λh=>absurd h (show¬(7:Int)=0 by decide),λh=>absurd h.ver h3⟩
 ·rw[zF h1];exact⟨λh=>absurd h (show¬(1:Int)=0 by decide),λh=>absurd h.gW h1⟩
theorem kc.eq{s:zg}{m:bu}(h:kc s m):fP s m=zu:=by unfold fP;rw[zT h.gW,h.right,zT h.ver,h.jA];rfl
theorem LZ{s:zg}(h:jw s){no:Int}(hh:bC s no=true):2<=no/\no<=128:=by have:=(ztu (zc7 h hh)).1;rw[(zgf hh).2] at this;exact this
theorem Ze{q:aS}{b:zg}{t:ByteArray}(h:(zz q b t).2=0)(hz:(zz q b t).1.1≠0):q.1≠2/\(zz q b t).1.1=q.2.2.1:=by
 unfold zz at h hz⊢;by_cases k1:q.1=1
 ·rw[zT k1,zC];exact⟨by omega,rfl⟩
 rw[zF k1,zD] at h hz⊢;by_cases k2:q.1=2
 ·rw[zT k2,zC] at hz;exact absurd rfl hz
 rw[zF k2,zD] at h hz⊢;refine⟨k2,?_⟩;by_cases k3:q.1=3
 ·rw[zT k3,zC]
 rw[zF k3,zD] at h hz⊢;by_cases k4:q.1=4
 ·rw[zT k4,zC] at h hz⊢;cases hs:bC b q.2.2.1 with
  |false=>rw[hs] at h;cases h
  |true=>
   rw[hs] at h;rw[ab,zD] at h⊢;cases hp:(fJ t (aX b q.2.2.1).2.2.2.1).2 with
   |false=>rw[hp] at h;cases h
   |true=>rfl
 rw[zF k4,zD] at h hz⊢;by_cases k5:q.1=5
 ·rw[zT k5,zC] at h hz⊢;cases hp:(zt q.2.2.2.2.1 t).2 with
  |false=>rw[hp] at h;cases h
  |true=>rfl
 ·rw[zF k5,zD] at hz;exact absurd rfl hz
theorem NU{l:List aQ}{v:aQ}:v∈cI l↔v∈l/\v.1≠0:=by unfold cI;rw[zab];simp
section
variable {m:Map} {a b:zg}
theorem fu.fj(h:fu m a b):m.2.1.Pairwise λx y=>lG x y=false:=(zm5 h.xt).1
theorem fu.okA(h:fu m a b):jw a:=(Ci a).1 h.sa
theorem fu.okB(h:fu m a b):jw b:=(Ci b).1 h.sb
theorem fu.to(h:fu m a b){r:aS}(hr:r∈m.2.1)(k:r.1≠2):bC b r.2.2.1=true:=(zln (z9i (h.rules r hr)).2.1).2.2.2 k
theorem fu.to0(h:fu m a b){r:aS}(hr:r∈m.2.1)(k:r.1≠2):r.2.2.1≠0:=by have:=LZ h.okB (h.to hr k);omega
theorem Wv(h:fu m a b):∀{l ys:List aQ},kQ l->js m b l= .inr ys->kF (cI ys)
 | [],ys,_,hy=>by cases hy;exact zcK
 |v::r,ys,hr,hy=>by
  rw[js] at hy;have hr:=zak.1 hr;cases hf:eK m v.1 with
  |none=>rw[hf] at hy;cases hy
  |some q=>
   rw[hf] at hy;dsimp only at hy;cases hz:decide ((zz q b v.2.1).2=0) with
   |false=>rw[hz] at hy;cases hy
   |true=>
    rw[hz,ab,zD] at hy;cases hv:js m b r with
    |inl f=>rw[hv] at hy;cases hy
    |inr zs=>
     rw[hv] at hy;cases hy;have ih:=Wv h hr.2 hv;unfold cI at ih⊢;rw[zbO];split
     ·rename_i hnz;have hnz:(zz q b v.2.1).1.1≠0:=by simpa using hnz
      refine zak.2 ⟨λz hzm=> ?_,ih⟩;obtain⟨z1,z2⟩:=NU.1 hzm;obtain⟨w,hw,q',hf',h0',rfl⟩:=Y0 hv z z1;obtain⟨a1,a2⟩:=Ze (of_decide_eq_true hz) hnz;obtain⟨b1,b2⟩:=Ze h0' z2;rw[a2,b2];obtain⟨qm,qf⟩:=NR hf;obtain⟨qm',qf'⟩:=NR hf';have ap:=hr.1 w hw;have bR:q≠q':=λe=>by subst e;omega
      exact zmo (V8 h.fj q qm q' qm' bR) (h.to0 qm a1)
     ·exact ih
theorem z9e{l:List aS}{v:aQ}:v∈iG l↔∃r∈l,r.1=3/\v=(r.2.2.1,r.2.2.2.1,()):=by
 unfold iG;rw[zau];constructor
 ·rintro⟨r,hr,rfl⟩;rw[zab] at hr;exact⟨r,hr.1,of_decide_eq_true hr.2,rfl⟩
 ·rintro⟨r,hr,k,rfl⟩;exact⟨r,zab.2 ⟨hr,zT k⟩,rfl⟩
theorem ads(h:fu m a b):kF (iG m.2.1):=by unfold iG;refine List.pairwise_map.2 ?_;refine zfH ?_ (h.fj.filter _);intro x y hx hy EV;have hx:=zab.1 hx;have k:x.1=3:=of_decide_eq_true hx.2;exact zmo EV (h.to0 hx.1 (by omega))
theorem ad5(h:fu m a b){l ys:List aQ}(hl:∀v∈l,bC a v.1=true)(hy:js m b l= .inr ys):∀c∈iG m.2.1,∀y∈cI ys,c.1≠y.1:=by
 intro c hc y hym;obtain⟨r,hr,k,rfl⟩:=z9e.1 hc;obtain⟨y1,y2⟩:=NU.1 hym;obtain⟨w,hw,q,hf,h0,rfl⟩:=Y0 hy y y1;obtain⟨b1,b2⟩:=Ze h0 y2;rw[b2];obtain⟨qm,qf⟩:=NR hf;have hwr:=LZ h.okA (hl w hw);have hz:=(zln (z9i (h.rules r hr)).2.1).1 k;have bR:r≠q:=λe=>by subst e;omega
 exact zmo (V8 h.fj r hr q qm bR) (h.to0 hr (by omega))
theorem TA(h:fu m a b){l ys:List aQ}(hr:kQ l)(hl:∀v∈l,bC a v.1=true)(hy:js m b l= .inr ys):kF (iG m.2.1++cI ys):=
 za0.2 ⟨ads h,Wv h hr hy,ad5 h hl hy⟩
theorem TB(h:fu m a b){l ys:List aQ}(hy:js m b l= .inr ys):∀v∈iG m.2.1++cI ys,bC b v.1=true:=by
 intro v hv;rcases M2.1 hv with hv|hv
 ·obtain⟨r,hr,k,rfl⟩:=z9e.1 hv;exact h.to hr (by omega)
 ·obtain⟨y1,y2⟩:=NU.1 hv;obtain⟨w,hw,q,hf,h0,rfl⟩:=Y0 hy v y1;obtain⟨b1,b2⟩:=Ze h0 y2;rw[b2];exact h.to (NR hf).1 b1
end
def nf(vs:List aQ):Nat->Nat->List aQ
 |0,_=>[]
 |n+1,k=>(vs.filter λv=>decide (v.1=(k:Int)))++nf vs n (k+1)
theorem z9b{vs:List aQ}{v:aQ}:∀{n k:Nat},v∈nf vs n k↔v∈vs/\(k:Int)<=v.1/\v.1<((k+n:Nat):Int)
 |0,k=>by simp only[nf,List.not_mem_nil,false_iff];omega
 |n+1,k=>by
  rw[nf,M2,zab,decide_eq_true_eq,z9b];constructor
  ·rintro(⟨h1,h2⟩|⟨h1,h2,h3⟩)
   ·exact⟨h1,by omega,by omega⟩
   ·exact⟨h1,by omega,by omega⟩
  ·rintro⟨h1,h2,h3⟩;by_cases e:v.1=(k:Int)
   ·exact .inl ⟨h1,e⟩
   ·exact .inr ⟨h1,by omega,by omega⟩
theorem zg4{vs:List aQ}(h:kF (cI vs)):∀(n k:Nat),1<=k->kQ (nf vs n k)
 |0,k,_=>zcK
 |n+1,k,hk=>by
  rw[nf];refine za0.2 ⟨?_,zg4 h n (k+1) (by omega),λx hx y hy=> ?_⟩
  ·have e:(vs.filter λv=>decide (v.1=(k:Int)))=(cI vs).filter λv=>decide (v.1=(k:Int)):=by
    unfold cI;rw[List.filter_filter];congr 1
    funext v
    by_cases hv:v.1=(k:Int)
    ·rw[zT hv,zF (by omega:¬v.1=0)];rfl
    ·rw[zF hv];rfl
   rw[e];refine zfH ?_ (h.filter _);intro x y hx hy bR;have h1:=of_decide_eq_true (zab.1 hx).2;have h2:=of_decide_eq_true (zab.1 hy).2;omega
  ·have h1:=of_decide_eq_true (zab.1 hx).2;have h2:=(z9b.1 hy).2.1;omega
def O4(m:Map)(a b:zg)(x:bu):bu×bV:=
 bif !decide ((dF m a b).1=0) then(bn,(1,-1,())) else bif !decide ((fP a x).1=0) then(bn,fP a x) else bif !(zt m.1 x.1).2 then(bn,(7,0,()))
 else match js m b x.2.1 with
  | .inl f=>(bn,f)
  | .inr ys=>(((zt m.1 x.1).1,nf (ys++iG m.2.1) 127 2,()),zu)
theorem zmi(l r:List aQ):cI (l++r)=cI l++cI r:=by unfold cI;rw[zcA]
theorem zmj{m:Map}{a b:zg}(h:fu m a b):cI (iG m.2.1)=iG m.2.1:=by unfold cI;refine zbS.2 λv hv=> ?_;obtain⟨r,hr,k,rfl⟩:=z9e.1 hv;have:=h.to0 hr (by omega);simpa using this
theorem SC{l r:List aQ}(h:kF (l++r)):kF (r++l):=by obtain⟨h1,h2,h3⟩:=za0.1 h;exact za0.2 ⟨h2,h1,λx hx y hy e=>h3 y hy x hx e.symm⟩
theorem ahS{m:Map}{a b:zg}(h:fu m a b){l ys:List aQ}(hr:kQ l)(hl:∀v∈l,bC a v.1=true)(hy:js m b l= .inr ys)(t:ByteArray):
 uQ (cI ys) (uh m.2.1 (t,[],()))=(t,nf (ys++iG m.2.1) 127 2,()):=by
 rw[zch,<-zgq];have EC:=TA h hr hl hy;have hs:cI (ys++iG m.2.1)=cI ys++iG m.2.1:=by rw[zmi,zmj h]
 refine apL.2 ⟨ztq _ _,?_⟩;refine XO (z131 _ zcK) (zg4 (by rw[hs];exact SC EC) 127 2 (by omega)) λv=> ?_;rw[z130 _ _ EC (λ_ _ w hw=>by cases hw) v,z9b];constructor
 ·rintro(hv|hv)
  ·cases hv
  ·have hb:=LZ h.okB (TB h hy v hv);refine⟨?_,by omega,by omega⟩;rcases M2.1 hv with hv|hv
   ·exact zbE _ hv
   ·exact zbm _ (NU.1 hv).1
 ·rintro⟨hv,h1,h2⟩;right;rcases M2.1 hv with hv|hv
  ·exact zbE _ (NU.2 ⟨hv,by omega⟩)
  ·exact zbm _ hv
theorem zgm(m:Map)(a b:zg)(x:bu):p8 m a b x=O4 m a b x:=by
 unfold p8 O4;by_cases h1:(dF m a b).1=0
 ·rw[zT h1,ab,zD,zD];by_cases h2:(fP a x).1=0
  ·rw[zT h2,ab,zD,zD];cases(zt m.1 x.1).2 with
   |false=>rfl
   |true=>
    rw[ab,zD,zD];obtain⟨g1,g2,g3⟩:=Fi.1 (Zs.1 h2).jA;rcases zck m b x.2.1 (uh m.2.1 ((zt m.1 x.1).1,[],())) with⟨f,o,e1,e2⟩|⟨ys,e1,e2⟩
    ·rw[e1,e2]
    ·rw[e1,e2];dsimp only;rw[ahS (zwa.1 h1) g2 (λv hv=>(g1 v hv).1) e2]
  ·rw[zF h2];rfl
 ·rw[zF h1];rfl
end bz

namespace bz
open Go.IntKind renaming wrap->zW,i64->zI,u8->zU
open Go Go.Ref
abbrev Sq:Ty:= .pair (.int .i64) (.pair (.int .i64) (.pair (.int .i64) (.pair (.int .i64) (.pair (.int .i64) .unit))))
abbrev apY:Ty:= .pair (.int .i64) (.pair (.int .i64) (.pair (.sl 0 Sq) .unit))
abbrev Fc:Ty:= .pair .str (.pair .str .unit)
abbrev Sp:Ty:= .pair (.int .i64) (.pair (.int .i64) (.pair (.int .i64) (.pair .str (.pair (.sl 0 Fc) .unit))))
abbrev So:Ty:= .pair (.sl 0 Fc) (.pair (.sl 0 Sp) .unit)
def small(n:Nat)(l:List bG):Bool:=l.all λp=> !decide ((n:Int)<(p.1.size:Int))&& !decide ((n:Int)<(p.2.1.size:Int))
theorem Wl{n:Nat}{l:List bG}(hn:n<=1200)(h:small n l=true):∀p∈l,p.1.size<=1099511627776/\p.2.1.size<=1099511627776:=λp hp=>by have:=List.all_eq_true.1 h p hp;simp only[nd,Bool.not_eq_true',decide_eq_false_iff_not] at this;omega
def grR(t:Bool):Option (Sum Bool Unit):=some (bif t then .inr () else .inl true)
theorem YH:∀(l:List bG) (i:Int),aV (λi (p:bG) (s:Unit) K=>bif(decide (1200<((p.1).size:Int))) then some (Sum.inl true) else(bif(decide (1200<((p.2.1).size:Int))) then some (Sum.inl true) else K s)) (λ_=>some (Sum.inr ())) l i ()=grR (small 1200 l)
 | [],i=>rfl
 |p::r,i=>by
  simp only[aV,small,List.all_cons];by_cases h1:(1200:Int)<(p.1.size:Int)
  ·rw[zT h1,zT (show((1200:Nat):Int)<(p.1.size:Int) from h1)];rfl
  ·rw[zF h1,zF (show¬((1200:Nat):Int)<(p.1.size:Int) from h1)];by_cases h2:(1200:Int)<(p.2.1.size:Int)
   ·rw[zT h2,zT (show((1200:Nat):Int)<(p.2.1.size:Int) from h2)];rfl
   ·rw[zF h2,zF (show¬((1200:Nat):Int)<(p.2.1.size:Int) from h2)];exact YH r (i+1)
def CM(r:aS):Bool:=decide ((1200:Int)<(r.2.2.2.1.size:Int))||(decide ((300:Int)<(r.2.2.2.2.1.length:Int))|| !small 1200 r.2.2.2.2.1)
theorem aeB(r:aS)(h:r.2.2.2.2.1.length<=maxLen):pd r=some (CM r):=by
 unfold pd zns CM;cases decide ((1200:Int)<(r.2.2.2.1.size:Int)) with
 |true=>rfl
 |false=>
  cases decide ((300:Int)<(r.2.2.2.2.1.length:Int)) with
  |true=>rfl
  |false=>
   simp only[zD,zbX];have:=gf jY r.2.2.2.2.1 h (λi (p:bG) (s:Unit) K=>bif(decide (1200<((p.1).size:Int))) then some (Sum.inl true) else(bif(decide (1200<((p.2.1).size:Int))) then some (Sum.inl true) else K s)) (λ_=>some (Sum.inr ()))
    (λk i s=>Cv k i r) (λk i s h0 h1=>by
      show Cv (k+1) i r=_
      conv=>lhs;unfold Cv ZF
      rw[zT h1,zC,zl h0 h1,zl h0 h1];rfl) (λk s=>by
      show Cv (k+1) r.2.2.2.2.1.length r=_
      conv=>lhs;unfold Cv ZF
      rw[zF (by omega),zD]) ()
   rw[this,YH];unfold grR;cases small 1200 r.2.2.2.2.1<;>rfl
theorem aiq{r:aS}(h:CM r=false):eH r:=by unfold CM at h;simp only[za8,decide_eq_false_iff_not,Bool.not_eq_false'] at h;obtain⟨h1,h2,h3⟩:=h;exact⟨by omega,by omega,Wl (by omega) h3⟩
theorem YG(m:Map):∀(l:List bG) (i:Int),aV (λi (p:bG) (s:Unit) K=>bif(decide (100<((p.1).size:Int))) then some (Sum.inl (true,m)) else(bif(decide (100<((p.2.1).size:Int))) then some (Sum.inl (true,m)) else K s)) (λ_=>some (Sum.inr m)) l i ()=some (bif small 100 l then .inr m else .inl (true,m))
 | [],i=>rfl
 |p::r,i=>by
  simp only[aV,small,List.all_cons];by_cases h1:(100:Int)<(p.1.size:Int)
  ·rw[zT h1,zT (show((100:Nat):Int)<(p.1.size:Int) from h1)];rfl
  ·rw[zF h1,zF (show¬((100:Nat):Int)<(p.1.size:Int) from h1)];by_cases h2:(100:Int)<(p.2.1.size:Int)
   ·rw[zT h2,zT (show((100:Nat):Int)<(p.2.1.size:Int) from h2)];rfl
   ·rw[zF h2,zF (show¬((100:Nat):Int)<(p.2.1.size:Int) from h2)];exact YG m r (i+1)
theorem YF:∀(l:List aS) (i:Int),(∀r∈l,r.2.2.2.2.1.length<=maxLen)->aV (λi (x:aS) (s:Unit) K=>((pd x).bind λr1=>(bif r1 then some (Sum.inl true) else K s))) (λ_=>some (Sum.inr ())) l i ()=some (bif l.any CM then Sum.inl true else Sum.inr ())
 | [],i,_=>rfl
 |r::l,i,h=>by
  simp only[aV,zdo];rw[aeB r (h r IS),ir];cases CM r with
  |true=>rfl
  |false=>exact YF l (i+1) λq hq=>h q (Cs _ hq)
def FL(m:Map):Bool:=decide ((300:Int)<(m.1.length:Int))||(decide ((300:Int)<(m.2.1.length:Int))||(!small 100 m.1||m.2.1.any CM))
theorem aeC(m:Map)(h1:m.1.length<=maxLen)(h2:m.2.1.length<=maxLen)(h3:∀r∈m.2.1,r.2.2.2.2.1.length<=maxLen):mK m=some (FL m):=by
 unfold mK zo3 FL;cases decide ((300:Int)<(m.1.length:Int)) with
 |true=>rfl
 |false=>
  cases decide ((300:Int)<(m.2.1.length:Int)) with
  |true=>rfl
  |false=>
   simp only[zD,zbX];have e1:=gf jY m.1 h1 (λi (p:bG) (s:Unit) K=>bif(decide (100<((p.1).size:Int))) then some (Sum.inl (true,m)) else(bif(decide (100<((p.2.1).size:Int))) then some (Sum.inl (true,m)) else K s)) (λ_=>some (Sum.inr m))
    (λk i s=>Cw k i m) (λk i s h0 h1=>by
      show Cw (k+1) i m=_
      conv=>lhs;unfold Cw ZL
      rw[zT h1,zC,zl h0 h1,zl h0 h1];rfl) (λk s=>by
      show Cw (k+1) m.1.length m=_
      conv=>lhs;unfold Cw ZL
      rw[zF (by omega),zD]) ()
   rw[e1,YG];cases small 100 m.1 with
   |false=>rfl
   |true=>
    simp only[zC,ir,zaA,ab,zbX];unfold zo4;have e2:=cn dI m.2.1 h2 (λi (x:aS) (s:Unit) K=>((pd x).bind λr1=>(bif r1 then some (Sum.inl true) else K s))) (λ_=>some (Sum.inr ()))
     (λk i s=>ZK k i m) (λk i s=>rfl) ()
    dsimp only;rw[e2,YF _ _ h3];cases m.2.1.any CM<;>rfl
theorem Ug{m:Map}(h:FL m=false):dq m:=by
 unfold FL at h;simp only[za8,decide_eq_false_iff_not,Bool.not_eq_false'] at h;obtain⟨h1,h2,h3,h4⟩:=h;refine⟨⟨by omega,Wl (by omega) h3⟩,by omega,λr hr=>aiq ?_⟩;cases hg:CM r with
 |false=>rfl
 |true=>rw[zb0.2 ⟨r,hr,hg⟩] at h4;cases h4
theorem Wu{m:Map}(h:Wf So m):mK m=some (FL m):=
 aeC m h.1.1 h.2.1.1 λr hr=>(h.2.1.2 r hr).2.2.2.2.1.1
theorem ad1{r:aS}{b:zg}{t:ByteArray}(ht:t.size<=1099511627776)(hr:eH r):(zz r b t).1.2.1.size<=1099511627776:=by
 have h0:(bs []).size<=1099511627776:=by decide
 unfold zz;cases decide (r.1=1) with
 |true=>exact ht
 |false=>
  rw[zD];cases decide (r.1=2) with
  |true=>exact h0
  |false=>
   rw[zD];cases decide (r.1=3) with
   |true=>exact hr.text
   |false=>
    rw[zD];cases decide (r.1=4) with
    |true=>
     rw[zC];cases bC b r.2.2.1 with
     |false=>exact h0
     |true=>
      rw[ab,zD];cases hp:(fJ t (aX b r.2.2.1).2.2.2.1).2 with
      |false=>exact h0
      |true=>obtain⟨p1,p2,p3,p4⟩:=XJ hp;show(fJ t (aX b r.2.2.1).2.2.2.1).1.size<=_;omega
    |false=>
     rw[zD];cases decide (r.1=5) with
     |true=>
      rw[zC];cases hp:(zt r.2.2.2.2.1 t).2 with
      |false=>exact h0
      |true=>obtain⟨p,hm,_,hq⟩:=zfy hp;show(zt r.2.2.2.2.1 t).1.size<=_;rw[hq];exact(hr.fj.sz p hm).2
     |false=>exact h0
theorem zlr{m:Map}{b:zg}:∀{l:List aQ} {f:bV},js m b l= .inl f->f.1≠0
 | [],f,h=>by cases h
 |v::r,f,h=>by
  rw[js] at h;cases hf:eK m v.1 with
  |none=>rw[hf] at h;cases h;exact(by decide:(9:Int)≠0)
  |some q=>
   rw[hf] at h;dsimp only at h;by_cases hz:(zz q b v.2.1).2=0
   ·rw[zT hz,ab,zD] at h;cases hr:js m b r with
    |inl g=>rw[hr] at h;cases h;exact zlr hr
    |inr ys=>rw[hr] at h;cases h
   ·rw[zF hz,GW,zC] at h;cases h;exact hz
structure cG(m:Map)(a b:zg)(x:bu)(ys:List aQ):Prop where
 map:fu m a b
 msg:kc a x
 head:(zt m.1 x.1).2=true
 xw:js m b x.2.1= .inr ys
theorem aep(m:Map)(a b:zg)(x:bu):(∃f,f.1≠0/\p8 m a b x=(bn,f))\/∃ys,cG m a b x ys/\p8 m a b x=(((zt m.1 x.1).1,nf (ys++iG m.2.1) 127 2,()),zu):=by
 rw[zgm];unfold O4;by_cases h1:(dF m a b).1=0
 ·rw[zT h1,ab,zD];by_cases h2:(fP a x).1=0
  ·rw[zT h2,ab,zD];cases h3:(zt m.1 x.1).2 with
   |false=>exact .inl ⟨_,by decide,rfl⟩
   |true=>
    rw[ab,zD];cases h4:js m b x.2.1 with
    |inl f=>exact .inl ⟨f,zlr h4,rfl⟩
    |inr ys=>exact .inr ⟨ys,⟨zwa.1 h1,Zs.1 h2,h3,h4⟩,rfl⟩
  ·rw[zF h2];exact .inl ⟨_,h2,rfl⟩
 ·rw[zF h1];exact .inl ⟨_,by decide,rfl⟩
theorem cG.eq{m:Map}{a b:zg}{x:bu}{ys:List aQ}(h:cG m a b x ys):p8 m a b x=(((zt m.1 x.1).1,nf (ys++iG m.2.1) 127 2,()),zu):=by rw[zgm];unfold O4;rw[zT (zwa.2 h.map),ab,zD,zT (Zs.2 h.msg),ab,zD,h.head,h.xw];rfl
section
variable {m:Map} {a b:zg} {x:bu} {ys:List aQ}
theorem cG.jA(h:cG m a b x ys):(∀v∈x.2.1,bC a v.1=true/\bJ (aX a v.1) v.2.1=0)/\kQ x.2.1/\∀v∈x.2.1,0<v.1:=Fi.1 h.msg.jA
theorem cG.ris(h:cG m a b x ys):kQ (nf (ys++iG m.2.1) 127 2):=by obtain⟨g1,g2,g3⟩:=h.jA;refine zg4 ?_ 127 2 (by omega);rw[zmi,zmj h.map];exact SC (TA h.map g2 (λv hv=>(g1 v hv).1) h.xw)
theorem cG.mem(h:cG m a b x ys)(v:aQ):v∈nf (ys++iG m.2.1) 127 2↔v∈iG m.2.1\/(v∈ys/\v.1≠0):=by
 rw[z9b,M2];have hr:=TB h.map h.xw;constructor
 ·rintro⟨h1|h1,h2,h3⟩
  ·exact .inr ⟨h1,by omega⟩
  ·exact .inl h1
 ·rintro(h1|⟨h1,h2⟩)
  ·have:=LZ h.map.okB (hr v (zbm _ h1));exact⟨.inr h1,by omega,by omega⟩
  ·have:=LZ h.map.okB (hr v (zbE _ (NU.2 ⟨h1,h2⟩)));exact⟨.inl h1,by omega,by omega⟩
theorem cG.valid(h:cG m a b x ys)(hm:dq m)(hx:dP x):∀v∈nf (ys++iG m.2.1) 127 2,bC b v.1=true/\v.2.1.size<=1099511627776/\bJ (aX b v.1) v.2.1=0:=by
 intro v hv;obtain⟨g1,g2,g3⟩:=h.jA;rcases(h.mem v).1 hv with hv|⟨hv,hz⟩
 ·obtain⟨r,hr,k,rfl⟩:=z9e.1 hv;have hc:=(z9i (h.map.rules r hr)).2.2.2;unfold lr at hc;rw[zF (by omega:¬r.1=1),zT k,zD,zC] at hc;exact⟨h.map.to hr (by omega),(hm.rules r hr).text,hc⟩
 ·obtain⟨w,hw,q,hf,h0,rfl⟩:=Y0 h.xw v hv;obtain⟨b1,b2⟩:=Ze h0 hz;obtain⟨qm,qf⟩:=NR hf;have hwt:=hx.oq w hw;have:=(ad2 (r:=q) (a:=a) (b:=b) hwt (hm.rules q qm) (h.map.rules q qm) h.map.okB (λ_=>by rw[qf];exact(g1 w hw).2)).2 h0;obtain⟨e1,e2,e3⟩:=this.2 b1;rw[b2];exact⟨e2,ad1 hwt (hm.rules q qm),e3⟩
theorem ajl{t:ByteArray}{v:Int}(h:jr t v=true):fU t=true/\eC t=v:=by unfold jr at h;rw[nd,decide_eq_true_eq] at h;refine⟨h.1,?_⟩;unfold eC;rw[h.1];exact h.2
theorem cG.sC(h:cG m a b x ys):fU (zt m.1 x.1).1=true/\eC (zt m.1 x.1).1=b.2.1:=by obtain⟨p,hp,_,e⟩:=zfy h.head;have ht:=h.map.typed p hp;unfold oV at ht;rw[nd,nd] at ht;rw[e];exact ajl ht.2.1
theorem cG.out(h:cG m a b x ys)(hm:dq m)(hx:dP x):kc b ((zt m.1 x.1).1,nf (ys++iG m.2.1) 127 2,()):=by have hv:=h.valid hm hx;refine⟨h.map.sb,h.sC.1,h.sC.2,Fi.2 ⟨λv hm=>⟨(hv v hm).1,(hv v hm).2.2⟩,h.ris,λv hm=> ?_⟩⟩;have:=LZ h.map.okB (hv v hm).1;omega
end
theorem Kg:∀{l:List aQ} {lo:Int},kQ l->(∀v∈l,lo<v.1/\v.1<=128)->(l.length:Int)<=max 0 (128-lo)
 | [],lo,_,_=>by simp;omega
 |x::r,lo,h,hr=>by have h:=zak.1 h;have hx:=hr x IS;have:=Kg (l:=r) (lo:=x.1) h.2 (λv hv=>⟨h.1 v hv,(hr v (Cs _ hv)).2⟩);simp only[ls];omega
theorem cG.ok{m:Map}{a b:zg}{x:bu}{ys:List aQ}(h:cG m a b x ys)(hm:dq m)(hx:dP x):dP ((zt m.1 x.1).1,nf (ys++iG m.2.1) 127 2,()):=by
 have hv:=h.valid hm hx;refine⟨?_,?_,λv jS=>(hv v jS).2.1⟩
 ·have:=(oQ.1 h.sC.1).1;show(zt m.1 x.1).1.size<=_;omega
 ·have:=Kg (lo:=0) h.ris (λv jS=>by have:=LZ h.map.okB (hv v jS).1;omega);show(nf (ys++iG m.2.1) 127 2).length<=_;omega
def QU(m:Map)(b:zg)(v:aQ):Prop:=∃q,eK m v.1=some q/\(zz q b v.2.1).2=0
theorem z9f{m:Map}{b:zg}:∀{l:List aQ},(∃ys,js m b l= .inr ys)↔∀v∈l,QU m b v
 | []=>⟨λ_ v hv=>(by cases hv),λ_=>⟨[],rfl⟩⟩
 |v::r=>by
  rw[js];constructor
  ·rintro⟨ys,h⟩ w hw;cases hf:eK m v.1 with
   |none=>rw[hf] at h;cases h
   |some q=>
    rw[hf] at h;dsimp only at h;cases hz:decide ((zz q b v.2.1).2=0) with
    |false=>rw[hz] at h;cases h
    |true=>
     rw[hz,ab,zD] at h;rcases If.1 hw with rfl|hw
     ·exact⟨q,hf,of_decide_eq_true hz⟩
     ·cases hr:js m b r with
      |inl g=>rw[hr] at h;cases h
      |inr zs=>exact z9f.1 ⟨zs,hr⟩ w hw
  ·intro h;obtain⟨q,hf,hz⟩:=h v IS;obtain⟨zs,hr⟩:=z9f.2 λw hw=>h w (Cs _ hw);rw[hf,hr];dsimp only;rw[zT hz];exact⟨_,rfl⟩
theorem cG.part{m:Map}{a b:zg}{x:bu}{ys:List aQ}(h:cG m a b x ys){l:List aQ}(hl:List.Sublist l x.2.1):∃zs,cG m a b (x.1,l,()) zs:=by obtain⟨g1,g2,g3⟩:=h.jA;obtain⟨zs,hz⟩:=z9f.2 λv hv=>z9f.1 ⟨ys,h.xw⟩ v (hl.subset hv);exact⟨zs,h.map,⟨h.msg.gW,h.msg.right,h.msg.ver,Fi.2 ⟨λv hv=>g1 v (hl.subset hv),g2.sublist hl,λv hv=>g3 v (hl.subset hv)⟩⟩,h.head,hz⟩
end bz

namespace bz
open Go.IntKind renaming wrap->zW,i64->zI,u8->zU
open Go Go.Ref
def hM(ae:Int)(m:ByteArray):ByteArray:=if ae=1 then m else(oR m).1
def nL(s:zg):List aQ->ByteArray
 | []=>bs []
 |v::r=>(uM s.1 (aX s v.1) v.2.1).1++nL s r
def gv(m:bu):List Int:=m.2.1.map λv=>v.1
def iu(s:zg)(m:bu):ByteArray:=hM s.1 m.1++(dH s.1 (cE (gv m)) (cK (gv m))).1++nL s m.2.1
theorem aiB(m:bu)(h:m.2.1.length<=1000000):vu m=some ((cE (gv m):Int),(cK (gv m):Int),()):=by
 unfold vu zpw;dsimp only;have key:∀(l:List aQ) (i:Int) (p:List Int),aV (λi (x:aQ) (b:yz) K=>(C4 b x.1).bind λr1=>K r1) (λb=>some (((0:Int),(0:Int),()),b)) l i ((cE p:Int),(cK p:Int),())=some (((0:Int),(0:Int),()),((cE (p++l.map λv=>v.1):Int),(cK (p++l.map λv=>v.1):Int),())):=by
  intro l
  induction l with
  |nil=>intro i p;rw[zbK,zay];rfl
  |cons x r ih=>
   intro i p;rw[aV,Xh _ _ (oK p) (pZ p),zc];have e1:cE p|||iT x.1=cE (p++ [x.1]):=by unfold cE;rw[zb5];rfl
   have e2:cK p|||iU x.1=cK (p++ [x.1]):=by unfold cK;rw[zb5];rfl
   rw[e1,e2];dsimp only;rw[ih (i+1) (p++ [x.1]),zaq,MM];rfl
 have:=cn fT m.2.1 (by rw[zj];omega) (λi (x:aQ) (b:yz) K=>(C4 b x.1).bind λr1=>K r1) (λb=>some (((0:Int),(0:Int),()),b)) (λk i b=>Z5 k m.2.1 (m.2.1.length:Int) i ((0:Int),(0:Int),()) b) (λk i b=>rfl) ((0:Int),(0:Int),());rw[this];have k2:=key m.2.1 0 [];rw[show cE []=0 from rfl,show cK []=0 from rfl] at k2;rw[show((0:Nat):Int)=0 from rfl] at k2;rw[k2];rfl
theorem adE(m:bu)(h:m.2.1.length<=1000000):uX m=some (gv m):=by
 unfold uX zn3;dsimp only;have key:∀(l:List aQ) (i:Int) (p:List Int),p.length+l.length<=1000000->aV (λi (x:aQ) (o:List Int) K=>bif decide ((o.length+([x.1]:List Int).length)*8<=140737488355328) then K (o++ [x.1]) else none) (λo=>some o) l i p=some (p++l.map λv=>v.1):=by
  intro l
  induction l with
  |nil=>intro i p _;rw[zbK,zay];rfl
  |cons x r ih=>intro i p hp;rw[ls] at hp;rw[aV,zT (by simp only[By];omega),zC];dsimp only;rw[ih (i+1) (p++ [x.1]) (by rw[th,By];omega),zaq,MM];rfl
 have:=cn fT m.2.1 (by rw[zj];omega) (λi (x:aQ) (o:List Int) K=>bif decide ((o.length+([x.1]:List Int).length)*8<=140737488355328) then K (o++ [x.1]) else none) (λo=>some o) (λk i o=>Zw k o i m) (λk i o=>rfl) [];rw[this,key m.2.1 0 [] (by simpa using h)];rfl
theorem UY(ae:Int)(m:ByteArray):(hM ae m).size<=m.size+500:=by
 unfold hM;split
 ·omega
 ·have:=zl3 m;omega
theorem SF(ae:Int)(h l:Nat):(dH ae h l).1.size<=32:=by
 have hz:dZ ae<=16:=by unfold dZ;split<;>omega
 unfold dH;split
 ·dsimp only;split
  ·rw[zlm];omega
  ·rw[xG,zlm,zlm];omega
 ·exact zaX _
theorem zla(ae:Int)(s:Spec)(t:ByteArray):(uM ae s t).1.size<=2*t.size+1000:=by
 unfold uM;split
 ·exact zaX _
 ·split
  ·exact zaX _
  ·dsimp only;rw[xG];have:=zm7 ae s.2.2.1 t.size;have:=zle (cH ae s.2.1) t;omega
structure l7(m:bu):Prop where
 sC:m.1.size<=1000
 len:m.2.1.length<=1000
 oq:∀v∈m.2.1,v.2.1.size<=1000
theorem l7.ok{m:bu}(h:l7 m):dP m:=⟨by have:=h.sC;omega,by have:=h.len;omega,λv hv=>by have:=h.oq v hv;omega⟩
theorem S9{s:zg}{m:bu}(hm:dP m)(h:kc s m):l7 m:=by
 have ho:=(Ci s).1 h.gW;obtain⟨f1,f2,f3⟩:=Fi.1 h.jA;refine⟨by have:=(oQ.1 h.right).1;omega,?_,λv hv=> ?_⟩
 ·have:=Kg (lo:=0) f2 (λv hv=>by have:=zgk (zc7 ho (f1 v hv).1);have e:=(zgf (f1 v hv).1).2;rw[e] at this;exact⟨by omega,by omega⟩)
  omega
 ·obtain⟨v1,v2,v3,_,_⟩:=(NZ _ _ (hm.oq v hv)).1 (f1 v hv).2;have:=Oz v1;omega
theorem Kk{x o:ByteArray}(h:o.size+x.size<=140737488355328):kL x o=some (o++x):=by unfold kL zrx z23;rw[zT h,zC,zc]
theorem Vz(s:zg)(hs:s.2.2.1.length<=maxLen)(f:bV):∀(l:List aQ) (i:Int) (o:ByteArray),(∀v∈l,v.2.1.size<=1000)->o.size+3000*l.length<=100000000->
 aV (λi (x:aQ) (o:ByteArray) K=>(gk s x.1).bind λr7=>(FP s.1 r7.1 x.2.1).bind λr8=>(kL r8.1 o).bind λr9=>K r9) (λo=>some (f,o)) l i o=some (f,o++nL s l)
 | [],i,o,_,_=>by rw[nL,J7];rfl
 |x::r,i,o,h,ho=>by have hx:=h x IS;have hc:=zla s.1 (aX s x.1) x.2.1;rw[ls] at ho;rw[aV,Cm s _ hs,zc,aeM _ _ _ (by omega),zc];dsimp only;rw[Kk (by omega),zc];rw[Vz s hs f r (i+1) _ (λv hv=>h v (Cs _ hv)) (by rw[xG];omega),nL,zcw]
theorem am9(ae:Int)(m:ByteArray)(hm:fU m=true)(hs:ae=1\/ae=2):∃k,vR ae m=some (hM ae m,k):=by
 have h4:=(oQ.1 hm).1;unfold vR zry hM;rw[zco m (by rw[zj];omega),zc,hm,ab,zD];rcases hs with rfl|rfl
 ·exact⟨true,rfl⟩
 ·rw[zF (by decide),zD,zT rfl,zC,zl2 m (by rw[zj];omega),zc,if_neg (by decide)];exact⟨_,rfl⟩
def sK(s:zg)(m:bu):ByteArray×bV:=if(fP s m).1=0 then(iu s m,zu) else(bs [],fP s m)
theorem Tv(s:zg)(m:bu)(hs:s.2.2.1.length<=maxLen)(h:dP m):pu s m=some (sK s m):=by
 unfold pu zrw sK;rw[ztn s m hs h,zc];by_cases h0:(fP s m).1=0
 case neg=>rw[zF h0,if_neg h0];rfl
 have hm:=Zs.1 h0;have tM:=S9 h hm;have ho:=(Ci s).1 hm.gW;obtain⟨k,hk⟩:=am9 s.1 m.1 hm.right ho.1;have ht:=UY s.1 m.1;have hb:=SF s.1 (cE (gv m)) (cK (gv m));have:=tM.sC;have:=tM.len;rw[zT h0,ab,zD,if_pos h0,hk,zc,aiB m (by omega)];have w1:kL (hM s.1 m.1) (bs [])=some (hM s.1 m.1):=by rw[Kk (by show 0+_<=_;omega),LI]
 have w2:kL (dH s.1 (cE (gv m)) (cK (gv m))).1 (hM s.1 m.1)=some (hM s.1 m.1++(dH s.1 (cE (gv m)) (cK (gv m))).1):=Kk (by omega);dsimp only;rw[w1,zc,zc,z210 _ _ _ (oK _) (pZ _),zc,w2,zc];have hl:=cn fT m.2.1 (by rw[zj];omega) (λi (x:aQ) (o:ByteArray) K=>(gk s x.1).bind λr7=>(FP s.1 r7.1 x.2.1).bind λr8=>(kL r8.1 o).bind λr9=>K r9) (λo=>some (zu,o)) (λk i o=>ze7 k m.2.1 (m.2.1.length:Int) i s zu o) (λk i o=>rfl) (hM s.1 m.1++(dH s.1 (cE (gv m)) (cK (gv m))).1);rw[hl,Vz s hs _ m.2.1 0 _ tM.oq (by rw[xG];omega)];rfl
theorem TN(s:zg)(m:bu)(hs:s.2.2.1.length<=maxLen)(hm:kc s m)(tM:l7 m):∀(l:List aQ) (i:Int) (o:ByteArray),(∀v∈l,v∈m.2.1)->o.size+3000*l.length<=100000000->
 aV (λi (x:aQ) (o:ByteArray) K=>(F4 s.1 (aX s x.1) x.2.1).bind λr5=>bif decide (o.size+r5.1.size<=9223372036854775807) then K (o++r5.1) else none) (λo=>some o) l i o=some (o++nL s l)
 | [],i,o,_,_=>by rw[nL,J7];rfl
 |x::r,i,o,h,ho=>by have hx:=tM.oq x (h x IS);have hc:=zla s.1 (aX s x.1) x.2.1;rw[ls] at ho;rw[aV,ajI _ _ _ (by omega),zc,zT (by omega),zC];dsimp only;rw[TN s m hs hm tM r (i+1) _ (λv hv=>h v (Cs _ hv)) (by rw[xG];omega),nL,zcw]
theorem U8(s:zg)(m:bu)(hs:s.2.2.1.length<=maxLen)(hm:kc s m)(tM:l7 m):oZ s m=some (iu s m):=by
 have ho:=(Ci s).1 hm.gW;have ht:=UY s.1 m.1;have hb:=SF s.1 (cE (gv m)) (cK (gv m));have:=tM.sC;have:=tM.len;unfold oZ zna;have hT:uZ s.1 m.1=some (hM s.1 m.1):=by
  unfold uZ znb hM;by_cases h1:s.1=1
  ·rw[zT h1,if_pos h1];rfl
  ·rw[zF h1,if_neg h1,zD,zu1 _ (by rw[zj];omega)];rfl
 rw[adE m (by omega),zc,ajG _ _ (by unfold gv;rw[zaR];omega),zc,hT,zc];dsimp only;rw[zT (by omega),zC];have hl:=gf fT m.2.1 (by rw[zj];omega) (λi (x:aQ) (o:ByteArray) K=>(F4 s.1 (aX s x.1) x.2.1).bind λr5=>bif decide (o.size+r5.1.size<=9223372036854775807) then K (o++r5.1) else none) (λo=>some o) (λk i o=>Cu k o i s m) (λk i o h0 h1=>by
  show Cu (k+1) o i s m=_
  conv=>lhs;unfold Cu Zz
  have hx:m.2.1.getD i.toNat fT∈m.2.1:=by rw[be,ks (by omega)];exact zan _
  obtain⟨f1,_,_⟩:=Fi.1 hm.jA;have hh:=(f1 _ hx).1;rw[zT h1,zC,zl h0 h1,Fq s _ hs,zc];rcases Fs s (m.2.1.getD i.toNat fT).1 with⟨i1,i2,i3⟩|⟨i1,i2,i3,i4⟩
  ·rw[i2] at hh;cases hh
  ·rw[zl i1 i2,zl h0 h1,i4]) (λk o=>by
  show Cu (k+1) o m.2.1.length s m=_
  conv=>lhs;unfold Cu Zz
  rw[zF (by omega),zD]) (hM s.1 m.1++(dH s.1 (cE (gv m)) (cK (gv m))).1)
 rw[hl,TN s m hs hm tM m.2.1 0 _ (λv hv=>hv) (by rw[xG];omega),zc];rfl
end bz

set_option maxRecDepth 10000
namespace bz
open Go.IntKind renaming wrap->zW,i64->zI,u8->zU
open Go Go.Ref
def gA(ae:Int):Nat:=if ae=2 then 2 else 4
def fS(ae:Int)(b:ByteArray):ByteArray:=if ae=2 then(kb (b.extract 0 2) 4).1 else b.extract 0 4
def ot(s:zg)(b:ByteArray):Sum Int tm:=
 if b.size<gA s.1 then .inl 2 else if fU (fS s.1 b)=true/\eC (fS s.1 b)=s.2.1 then .inr (fS s.1 b,gA s.1) else .inl 7
def iX(s:zg)(b:ByteArray):List Int->Nat->List aQ->List aQ×bV
 | [],a,o=>(o,if a<b.size then(12,129,()) else zu)
 |no::r,a,o=>if bC s no=false then(o,(9,no,())) else if¬(z28 s.1 (aX s no) b a).2.2=0 then(o,((z28 s.1 (aX s no) b a).2.2,no,())) else iX s b r (z28 s.1 (aX s no) b a).2.1.toNat (o++ [(no,(z28 s.1 (aX s no) b a).1,())])
def ww(s:zg)(b t:ByteArray)(g:Nat×Nat×Int×Int):bu×bV:=
 if¬g.2.2.2=0 then((t,[],()),(g.2.2.2,1,())) else((t,(iX s b (elems g.1 g.2.1) g.2.2.1.toNat []).1,()),(iX s b (elems g.1 g.2.1) g.2.2.1.toNat []).2)
def Ah(s:zg)(b:ByteArray):Sum Int tm->bu×bV
 | .inl e=>(bn,(e,0,()))
 | .inr q=>ww s b q.1 (bL s.1 b q.2)
def jz(s:zg)(b:ByteArray):bu×bV:=if¬(ij s).1=0 then(bn,(1,-1,())) else Ah s b (ot s b)
def G8:Sum Int tm->ByteArray×Int×Int
 | .inl e=>(bs [],0,e)
 | .inr q=>(q.1,(q.2:Int),0)
theorem UZ(ae:Int)(b:ByteArray):(fS ae b).size<=2000:=by
 unfold fS;split
 ·generalize hg:kb (b.extract 0 2) 4=g;obtain⟨t,e,i⟩:=g;have:=YZ hg;dsimp only;omega
 ·rw[zar];omega
theorem U0(s:zg)(t:ByteArray)(z:Nat)(ht:t.size<=2000):((ke t).bind λr3=>(bif(!r3.2) then some (bs [],(0:Int),(7:Int)) else(bif(!(decide (r3.1=s.2.1))) then some (bs [],(0:Int),(7:Int)) else some (t,(z:Int),(0:Int)))))=some (G8 (if fU t=true/\eC t=s.2.1 then .inr (t,z) else .inl 7)):=by
 rw[z9a t (by rw[zj];omega),zc];dsimp only;cases hr:fU t with
 |false=>rfl
 |true=>
  rw[ab,zD];by_cases hv:eC t=s.2.1
  ·rw[zT hv,if_pos ⟨rfl,hv⟩];rfl
  ·rw[zF hv,if_neg (λh=>hv h.2)];rfl
theorem ajk(s:zg)(b:ByteArray)(hb:b.size<=1099511627776):vM s b=some (G8 (ot s b)):=by
 have h4:Q2 4=some 2:=by have:=Y6 4 (by decide) (by decide);exact this
 have e0:((2:Int)).toNat=2:=rfl;have e4:((4:Int)).toNat=4:=rfl;have jd:=UZ s.1 b;unfold vM zrg ot;by_cases h2:s.1=2
 ·have hz:gA 2=2:=rfl;have hT:fS 2 b=(kb (b.extract 0 2) 4).1:=rfl;rw[h2] at jd;simp only[h2,decide_true,zC,h4,zc,e0];rw[hz];by_cases hc:b.size<2
  ·rw[zT (by omega),if_pos hc];rfl
  ·rw[zF (by omega),zD,zT (by decide),zC,zT (by omega),zC,if_neg hc,zl1 _ _ (by rw[zar];omega),zc,<-hT];exact U0 s (fS 2 b) 2 jd
 ·have hz:gA s.1=4:=by unfold gA;rw[if_neg h2]
  have hT:fS s.1 b=b.extract 0 4:=by unfold fS;rw[if_neg h2]
  simp only[h2,decide_false,zD,e4];rw[hz];by_cases hc:b.size<4
  ·rw[zT (by omega),if_pos hc];rfl
  ·rw[zF (by omega),zD,zT (by omega),zC,if_neg hc,<-hT];exact U0 s (fS s.1 b) 4 jd
theorem aen{h l:Nat}{pre r:List Int}{no:Int}(he:elems h l=pre++no::r):jl h l no=r.headD 0:=by have hs:=zll h l;rw[he] at hs;have hp:=za0.1 hs;have hq:=zak.1 hp.2.1;unfold jl;rw[he,zcA,zfX.2 (λx hx=>by have:=hp.2.2 x hx no IS;simp;omega),zah,zdX (by simp),zbS.2 (λx hx=>by have:=hq.1 x hx;simp;omega)]
theorem afd(h l:Nat):jl h l 0=(elems h l).headD 0:=by unfold jl;rw[zbS.2 (λx hx=>by have:=zlw ((Zh h l x).1 hx);simp;omega)]
theorem Zn(h l:Nat):(elems h l).length<=128:=by unfold elems;exact Nat.le_trans (zcD _ _) (by rw[z229];exact zag _)
theorem TO{ae:Int}{s:Spec}{b:ByteArray}{a:Nat}(hb:b.size<=1099511627776)(h:(z28 ae s b a).2.2=0):(((z28 ae s b a).2.1.toNat:Nat):Int)=(z28 ae s b a).2.1:=by generalize hg:z28 ae s b a=g at h⊢;obtain⟨t,z,e⟩:=g;dsimp only at h⊢;subst h;have:=(SI hb hg).2.2.1;omega
def wE(b:ByteArray)(e:Sum (ByteArray×Int×bu×bV×bu) (ByteArray×Int×bu×bV×bu)):Option (bu×bV):=Sum.elim (λwe=>some (we.2.2.1,we.2.2.2.1)) (λwe=>bif(decide (we.2.1<(we.1.size:Int))) then some (we.2.2.2.2,((12:Int),(129:Int),())) else some (we.2.2.2.2,zu)) e
theorem ztw(s:zg)(hs:s.2.2.1.length<=maxLen)(b t:ByteArray)(hb:b.size<=1099511627776)(h l:Nat)(hh:h<dm)(hl:l<dm):∀(r pre:List Int) (k a:Nat) (o:List aQ),elems h l=pre++r->o.length<=pre.length->r.length<k->
 (Mx k b (a:Int) (r.headD 0) s bn zu (t,o,()) ((h:Int),(l:Int),())).bind (wE b)=some ((t,(iX s b r a o).1,()),(iX s b r a o).2)
 |r,pre,0,a,o,_,_,hk=>by omega
 | [],pre,k+1,a,o,he,ho,hk=>by
   unfold Mx ze6 iX;rw[show([]:List Int).headD 0=0 from rfl,zT (p:=(0:Int)=0) rfl,ab,zD,zc];unfold wE;rw[zaA];dsimp only;by_cases hc:a<b.size
   ·rw[zT (by omega),if_pos hc];rfl
   ·rw[zF (by omega),if_neg hc];rfl
 |no::r,pre,k+1,a,o,he,ho,hk=>by
  have cQ:no∈elems h l:=by rw[he];exact zbE _ IS
  have oP:=zlw ((Zh h l no).1 cQ);have hlen:=Zn h l;rw[he,th,ls] at hlen;rw[ls] at hk;unfold Mx ze6 iX;rw[show(no::r).headD 0=no from rfl,zF (by omega:¬no=0),GW,zC,Cm s _ hs,zc];dsimp only;cases hf:bC s no with
  |false=>rfl
  |true=>
   rw[ab,zD,if_neg (by decide),aeL _ _ _ _ hb,zc];by_cases hz:(z28 s.1 (aX s no) b a).2.2=0
   case neg=>rw[zF hz,if_pos hz];rfl
   rw[zT hz,ab,zD,if_neg (λh=>h hz),zT (by simp only[By];omega),zC,Wz h l hh hl no (by omega) (by omega),zc,aen he,<-TO hb hz];exact ztw s hs b t hb h l hh hl r (pre++ [no]) k _ _ (by rw[he,MM];rfl) (by rw[th,th,By,By];omega) (by omega)
theorem Vp{ae:Int}{b:ByteArray}{a:Nat}(h:(bL ae b a).2.2.2=0):(bL ae b a).1<dm/\(bL ae b a).2.1<dm/\(((bL ae b a).2.2.1.toNat:Nat):Int)=(bL ae b a).2.2.1:=by generalize hg:bL ae b a=g at h⊢;obtain⟨h',l,z,e⟩:=g;dsimp only at h⊢;subst h;obtain⟨_,q1,q2,q3,_⟩:=amc hg;exact⟨by show h'<18446744073709551616;omega,q2,by omega⟩
theorem afE(s:zg)(b:ByteArray)(hs:s.2.2.1.length<=maxLen)(hb:b.size<=1099511627776):te s b=some (jz s b):=by
 unfold te zrf jz;rw[Zj s hs,zc];by_cases h0:(ij s).1=0
 case neg=>rw[zF h0,if_pos h0];rfl
 rw[zT h0,ab,zD,if_neg (λh=>h h0),ajk s b hb,zc];cases ht:ot s b with
 |inl e=>
  have he:e≠0:=by
   unfold ot at ht;split at ht
   ·cases ht;decide
   ·split at ht
    ·cases ht
    ·cases ht;decide
  exact OY he
 |inr q=>
  obtain⟨t,z⟩:=q;refine(M8 (p:=(0:Int)=0) rfl).trans ?_;dsimp only[G8,Ah,ww];rw[amb _ _ _ hb,zc];by_cases he:(bL s.1 b z).2.2.2=0
  case neg=>rw[if_pos he];exact OY he
  rw[if_neg (λh=>h he)];refine(M8 he).trans ?_;obtain⟨q1,q2,q3⟩:=Vp he;dsimp only[bmR];rw[Wz _ _ q1 q2 0 (by decide) (by decide),zc,afd,<-q3];exact ztw s hs b t hb _ _ q1 q2 (elems (bL s.1 b z).1 (bL s.1 b z).2.1) [] af _ [] rfl (zag _) (by have:=Zn (bL s.1 b z).1 (bL s.1 b z).2.1;rw[zo];omega)
end bz

set_option maxRecDepth 10000
namespace bz
open Go.IntKind renaming wrap->zW,i64->zI,u8->zU
open Go Go.Ref
theorem Tf(s:zg)(hs:s.2.2.1.length<=maxLen)(b t:ByteArray)(hb:b.size<=1099511627776)(L:List Int)(hL:L.length<=1000):∀(n j k a:Nat) (o:List aQ),j+n=L.length->o.length<=j->n<k->
 (Fv k b L (a:Int) (j:Int) s bn zu (t,o,())).bind (wE b)=some ((t,(iX s b (L.drop j) a o).1,()),(iX s b (L.drop j) a o).2)
 |n,j,0,a,o,_,_,hk=>by omega
 |0,j,k+1,a,o,hj,ho,hk=>by
  unfold Fv ZA;rw[zF (by omega),zD,GA (by omega),zc];unfold wE iX;rw[zaA];dsimp only;by_cases hc:a<b.size
  ·rw[zT (by omega),if_pos hc];rfl
  ·rw[zF (by omega),if_neg hc];rfl
 |n+1,j,k+1,a,o,hj,ho,hk=>by
  have ap:j<L.length:=by omega
  have hw:∀{R:Type} (z:Option R),zd (j:Int) L.length z=z:=λz=>zh ap;unfold Fv ZA;rw[zT (by omega),zC,AT ap,iX];simp only[hw,VH ap];rw[Fq s _ hs,zc];rcases Fs s L[j] with⟨i1,i2,i3⟩|⟨i1,i2,i3,i4⟩
  ·rw[i1,zT (by decide),zC,if_pos i2];rfl
  ·rw[zF (by omega),zD,zl i1 i2,i4,if_neg (by rw[i3];decide),ajC _ _ _ _ hb,zc];by_cases hz:(z28 s.1 (aX s L[j]) b a).2.2=0
   case neg=>rw[zF hz,if_pos hz];rfl
   rw[zT hz,ab,zD,if_neg (λh=>h hz),zT (by simp only[By];omega),zC,zq (by omega),<-TO hb hz];exact Tf s hs b t hb L hL n (j+1) k _ _ (by omega) (by rw[th,By];omega) (by omega)
def YT(s:zg)(b t:ByteArray)(z:Int):Option (bu×bV):=
 (kH t).bind λr3=>(bif(!r3) then some (bn,((7:Int),(0:Int),())) else(zd (0:Int) t.size (bif(!(decide ((zW zI ((zW zI (ze t ((0:Int)).toNat))-(48:Int)))=s.2.1))) then some (bn,((7:Int),(0:Int),())) else((yN s.1 b z).bind λr4=>(bif(!(decide (r4.2.2=(0:Int)))) then some ((t,[],()),(r4.2.2,(1:Int),())) else(Fv af b r4.1 r4.2.1 0 s bn zu (t,[],())).bind (wE b))))))
theorem UT(s:zg)(hs:s.2.2.1.length<=maxLen)(b t:ByteArray)(z:Nat)(hb:b.size<=1099511627776)(ht:t.size<=2000):YT s b t z=some (Ah s b (if fU t=true/\eC t=s.2.1 then .inr (t,z) else .inl 7)):=by
 unfold YT;rw[zfu t (by rw[zj];omega),zc];cases hr:fU t with
 |false=>rfl
 |true=>
  have h4:=(oQ.1 hr).1;have hd:=sQ hr 0 (by decide);have hv:eC t=ze t 0-48:=by unfold eC;rw[hr];rfl
  have e1:zW zI (ze t 0)=ze t 0:=zi (by omega) (by omega);have e2:zW zI (ze t 0-48)=ze t 0-48:=zi (by omega) (by omega);rw[ab,zD,h4,show(0:Int)=((0:Nat):Int) from rfl,zh (by decide),ba,e1,e2,<-hv];by_cases he:eC t=s.2.1
  case neg=>rw[zF he,if_neg (λh=>he h.2)];rfl
  rw[zT he,ab,zD,if_pos ⟨rfl,he⟩,ajA _ _ _ hb,zc];dsimp only[Ah,ww];by_cases hz:(bL s.1 b z).2.2.2=0
  ·obtain⟨q1,q2,q3⟩:=Vp hz;have hg:fZ (bL s.1 b z)=(elems (bL s.1 b z).1 (bL s.1 b z).2.1,(bL s.1 b z).2.2.1,0):=by unfold fZ;rw[if_pos hz]
   rw[hg,if_neg (λh=>h hz)];refine(M8 (p:=(0:Int)=0) rfl).trans ?_;dsimp only;have:=Tf s hs b t hb (elems (bL s.1 b z).1 (bL s.1 b z).2.1) (by have:=Zn (bL s.1 b z).1 (bL s.1 b z).2.1;omega) (elems (bL s.1 b z).1 (bL s.1 b z).2.1).length 0 af (bL s.1 b z).2.2.1.toNat [] (by omega) (zag _) (by have:=Zn (bL s.1 b z).1 (bL s.1 b z).2.1;rw[zo];omega);rw[q3,GS] at this;exact this
  ·have hg:fZ (bL s.1 b z)=([],0,(bL s.1 b z).2.2.2):=by unfold fZ;rw[if_neg hz]
   rw[hg,if_pos hz];exact OY hz
theorem adN(s:zg)(b:ByteArray)(hs:s.2.2.1.length<=maxLen)(hb:b.size<=1099511627776):sU s b=some (jz s b):=by
 have jd:=UZ s.1 b;unfold sU N2 jz;rw[Y3 s hs,zc];by_cases h0:(ij s).1=0
 case neg=>rw[zF h0,if_pos h0];rfl
 rw[zT h0,ab,zD,if_neg (λh=>h h0)];unfold ot;by_cases h2:s.1=2
 ·have hz:gA s.1=2:=by unfold gA;rw[if_pos h2]
  have hT:fS s.1 b=(kb (b.extract 0 2) 4).1:=by unfold fS;rw[if_pos h2]
  rw[zT h2,zC,hz];by_cases hc:b.size<2
  ·rw[zT (by omega),if_pos hc];rfl
  ·rw[zF (by omega),zD,zT (by omega),zC,zC,show((2:Int)).toNat=2 from rfl,ztz _ _ (by rw[zar];omega),zc,<-hT,if_neg hc];exact UT s hs b (fS s.1 b) 2 hb jd
 ·have hz:gA s.1=4:=by unfold gA;rw[if_neg h2]
  have hT:fS s.1 b=b.extract 0 4:=by unfold fS;rw[if_neg h2]
  rw[zF h2,zD,hz];by_cases hc:b.size<4
  ·rw[zT (by omega),if_pos hc];rfl
  ·rw[zF (by omega),zD,zT (by omega),zC,zD,show((4:Int)).toNat=4 from rfl,<-hT,if_neg hc];exact UT s hs b (fS s.1 b) 4 hb jd
theorem apN{s:zg}(h:jw s){no:Int}(hh:bC s no=true):2<=no/\no<=128:=by have:=zgk (zc7 h hh);rw[(zgf hh).2] at this;exact this
theorem ajj{s:zg}(hs:s.1=1\/s.1=2){m y:ByteArray}(hm:fU m=true):fS s.1 (hM s.1 m++y)=m/\(hM s.1 m).size=gA s.1:=by
 obtain⟨h4,hd⟩:=oQ.1 hm;have e0:∀(p:ByteArray) (k:Nat),p.size=k->(p++y).extract 0 k=p:=λp k hk=>by have:=apA (bs []) p y;rw[LI,show(bs []).size=0 from rfl,Nat.zero_add,hk] at this;exact this
 unfold fS hM gA;rcases hs with hs|hs
 ·have n2:¬s.1=2:=by omega
  rw[if_neg n2,if_pos hs,if_neg n2];exact⟨e0 m 4 h4,h4⟩
 ·have n1:¬s.1=1:=by omega
  have hz:(oR m).1.size=2:=by rw[zcd (by omega) hd,h4]
  rw[if_pos hs,if_neg n1,if_pos hs,e0 _ 2 hz];have:=al7 (s:=m) (by omega) hd;rw[h4] at this;rw[show(4:Int)=((4:Nat):Int) from rfl,this];exact⟨rfl,hz⟩
abbrev aW:=zg×Map×List Int×List aQ×Unit
abbrev Ff:aQ:=(0,bs [],())
def ld(s:zg)(prev:List Int)(no:Int):Int:=bif !bC s no then 9 else bif decide (no=39) then 1 else bif decide (no∈prev) then 10 else 0
def gK(s:zg):List Int->List Int->Int->Option (Int×Int)
 |_,[],_=>none
 |prev,no::r,i=>bif decide (ld s prev no=0) then gK s (prev++ [no]) r (i+1) else some (ld s prev no,i)
def iV(a:Spec)(prev:List Int)(c:aQ):Int:=bif decide (c.1<0) then 1 else bif decide (16<c.1) then 1 else bif decide (c.1∈prev) then 10 else bJ a c.2.1
def fC(a:Spec):List Int->List aQ->Int->Option (Int×Int)
 |_,[],_=>none
 |prev,c::r,i=>bif decide (iV a prev c=0) then fC a (prev++ [c.1]) r (i+1) else some (iV a prev c,i)
def gx(s:aW):Int×Int×Int:=
 bif !decide ((ij s.1).1=0) then(1,1,0) else bif !bC s.1 39 then(9,1,1) else match gK s.1 [] s.2.2.1 0 with
  |some e=>(e.1,2,e.2)
  |none=>match fC (aX s.1 39) [] s.2.2.2.1 0 with
   |some e=>(e.1,3,e.2)
   |none=>bif decide ((0:Int)∈s.2.2.2.1.map λc=>c.1) then(0,0,0) else(15,3,(s.2.2.2.1.length:Int))
structure cZ(s:aW):Prop where
 gW:s.1.2.2.1.length<=maxLen
 pG:s.2.2.1.length<=1000000
 fX:s.2.2.2.1.length<=1000000
 oq:∀c∈s.2.2.2.1,c.2.1.size<=1099511627776
theorem VO(no:Int):∀(l:List Int) (i:Int),0<=i->∃r,aV (λi (x:Int) (s:Unit) K=>bif decide (no=x) then some (Sum.inl i) else K s) (λ_=>some (Sum.inr ())) l i ()=some r/\(no∈l->∃j,r= .inl j/\0<=j)/\(no∉l->r= .inr ())
 | [],i,_=>⟨_,rfl,λh=>(by cases h),λ_=>rfl⟩
 |x::l,i,h=>by
  rw[aV];by_cases e:no=x
  ·rw[zT e,zC];exact⟨_,rfl,λ_=>⟨i,rfl,h⟩,λhn=>absurd (by rw[e];exact IS) hn⟩
  ·rw[zF e,zD];obtain⟨r,h1,h2,h3⟩:=VO no l (i+1) (by omega);exact⟨r,h1,λhm=>h2 ((If.1 hm).resolve_left e),λhn=>h3 λhm=>hn (Cs _ hm)⟩
theorem ac8(l:List Int)(no:Int)(h:l.length<=maxLen):vJ l no=some (decide (no∈l)):=by
 unfold vJ zr3 yG zr9;have:=cn (0:Int) l h (λi (x:Int) (s:Unit) K=>bif decide (no=x) then some (Sum.inl i) else K s) (λ_=>some (Sum.inr ()))
  (λk i s=>ze5 k l no (l.length:Int) i) (λk i s=>rfl) ()
 dsimp only;obtain⟨r,h1,h2,h3⟩:=VO no l 0 (zaT _);rw[this,h1,zc];by_cases hm:no∈l
 ·obtain⟨j,rfl,hj⟩:=h2 hm;rw[zT hm];show some (decide (0<=j))=_;rw[zT hj]
 ·rw[h3 hm,zF hm];rfl
theorem VR(c:aQ):∀(l:List aQ) (i:Int),0<=i->∃r,aV (λi (x:aQ) (s:aQ) K=>((tc x s).bind λr1=>(bif r1.1 then some (Sum.inl (i,r1.2)) else K r1.2))) (λs=>some (Sum.inr s)) l i c=some r/\(c.1∈l.map (λv=>v.1)->∃j,r= .inl (j,c)/\0<=j)/\(c.1∉l.map (λv=>v.1)->r= .inr c)
 | [],i,_=>⟨_,rfl,λh=>(by cases h),λ_=>rfl⟩
 |x::l,i,h=>by
  rw[aV];unfold tc zql;rw[zc];dsimp only;rw[zaq];by_cases e:x.1=c.1
  ·rw[zT e,zC];exact⟨_,rfl,λ_=>⟨i,rfl,h⟩,λhn=>absurd (by rw[e];exact IS) hn⟩
  ·rw[zF e,zD];obtain⟨r,h1,h2,h3⟩:=VR c l (i+1) (by omega);exact⟨r,h1,λhm=>h2 ((If.1 hm).resolve_left λe2=>e e2.symm),λhn=>h3 λhm=>hn (Cs _ hm)⟩
theorem ac9(l:List aQ)(c:aQ)(h:l.length<=maxLen):vI l c=some (decide (c.1∈l.map λv=>v.1),c):=by
 unfold vI zr2 yF zr5;have:=cn Ff l h (λi (x:aQ) (s:aQ) K=>((tc x s).bind λr1=>(bif r1.1 then some (Sum.inl (i,r1.2)) else K r1.2))) (λs=>some (Sum.inr s))
  (λk i s=>ze3 k l (l.length:Int) i s) (λk i s=>rfl) c
 dsimp only;obtain⟨r,h1,h2,h3⟩:=VR c l 0 (zaT _);rw[this,h1,zc];by_cases hm:c.1∈l.map λv=>v.1
 ·obtain⟨j,rfl,hj⟩:=h2 hm;rw[zT hm];show some (decide (0<=j),c)=_;rw[zT hj]
 ·rw[h3 hm,zF hm];rfl
theorem FC{α:Type}{l:List α}{j:Nat}(h:j<l.length)(d:α):l.getD j d=l[j]:=by rw[be,ks h];rfl
theorem apw(s:aW)(h:cZ s){j:Nat}(hj:j<s.2.2.1.length):vF s (j:Int)=some (ld s.1 (s.2.2.1.take j) s.2.2.1[j]):=by
 have he:=h.pG;unfold vF zqm ld;rw[zh hj,ba,FC hj,Cm s.1 _ h.gW,zc];cases bC s.1 s.2.2.1[j] with
 |false=>rfl
 |true=>
  dsimp only;rw[ab,zD,zD];cases decide (s.2.2.1[j]=39) with
  |true=>rfl
  |false=>rw[zD,zD,zT (by omega),zC,zT (by omega),zC,GS,ac8 _ _ (by rw[Of,zj];omega),zc];cases decide (s.2.2.1[j]∈s.2.2.1.take j)<;>rfl
theorem apt(s:aW)(h:cZ s)(a:Spec){j:Nat}(hj:j<s.2.2.2.1.length):vE s (j:Int) a=some (iV a ((s.2.2.2.1.take j).map λc=>c.1) s.2.2.2.1[j]):=by
 have he:=h.fX;have ht:=h.oq _ (zan hj);unfold vE zqk iV;rw[zh hj,ba,FC hj];cases decide (s.2.2.2.1[j].1<0) with
 |true=>rfl
 |false=>
  rw[zD,zD];cases decide (16<s.2.2.2.1[j].1) with
  |true=>rfl
  |false=>
   rw[zD,zD,zT (by omega),zC,zT (by omega),zC,GS,ac9 _ _ (by rw[Of,zj];omega),zc];dsimp only;cases decide (s.2.2.2.1[j].1∈(s.2.2.2.1.take j).map λc=>c.1) with
   |true=>rfl
   |false=>rw[zD,zD,ye _ _ ht];rfl
theorem T4(s:aW)(h:cZ s)(sp:Spec):∀(n j k:Nat),j+n=s.2.2.1.length->n<k->Mu k (s.2.2.1.length:Int) (j:Int) s sp=some (match gK s.1 (s.2.2.1.take j) (s.2.2.1.drop j) j with
 |some e=> .inl (e.1,2,e.2,s,sp)
 |none=> .inr (s,sp))
 |n,j,0,_,hk=>by omega
 |0,j,k+1,hj,hk=>by unfold Mu zdx;rw[zF (by omega),zD,GA (by omega)];rfl
 |n+1,j,k+1,hj,hk=>by
  have ap:j<s.2.2.1.length:=by omega
  have he:=h.pG;unfold Mu zdx;rw[zT (by omega),zC,apw s h ap,zc,AT ap,gK];cases decide (ld s.1 (s.2.2.1.take j) s.2.2.1[j]=0) with
  |false=>rfl
  |true=>rw[ab,zD,zC];dsimp only;rw[zq (by omega),zcN ap];exact T4 s h sp n (j+1) k (by omega) (by omega)
def mJ(t:Bool):List aQ->Bool
 | []=>t
 |c::r=>mJ (t||decide (c.1=0)) r
theorem Ww(t:Bool):∀l:List aQ,mJ t l=(t||decide ((0:Int)∈l.map λc=>c.1))
 | []=>by simp [mJ]
 |c::r=>by rw[mJ,Ww _ r,zaq,Bool.or_assoc];congr 1;rw[<-Bool.decide_or];exact decide_eq_decide.2 ⟨λh=>h.elim (λe=>by rw[<-e];exact IS) (Cs _),λh=>(If.1 h).imp (λe=>e.symm) id⟩
theorem zld(s:aW)(h:cZ s)(a:Spec):∀(n j k:Nat) (t:Bool),j+n=s.2.2.2.1.length->n<k->∃t',Mv k t s.2.2.2.1 (s.2.2.2.1.length:Int) (j:Int) s a=some (match fC a ((s.2.2.2.1.take j).map λc=>c.1) (s.2.2.2.1.drop j) j with
 |some e=> .inl (e.1,3,e.2,t',s)
 |none=> .inr (mJ t (s.2.2.2.1.drop j),s))
 |n,j,0,t,_,hk=>by omega
 |0,j,k+1,t,hj,hk=>by unfold Mv zdy;rw[zF (by omega),zD,GA (by omega)];exact⟨t,rfl⟩
 |n+1,j,k+1,t,hj,hk=>by
  have ap:j<s.2.2.2.1.length:=by omega
  have he:=h.fX;unfold Mv zdy;rw[zT (by omega),zC,zh ap,apt s h a ap,zc,AT ap,fC,mJ];cases decide (iV a ((s.2.2.2.1.take j).map λc=>c.1) s.2.2.2.1[j]=0) with
  |false=>exact⟨t,rfl⟩
  |true=>
   rw[ab,zD,zC];dsimp only;rw[zq (by omega),ba,FC ap];have e:(s.2.2.2.1.take j).map (λc=>c.1)++ [s.2.2.2.1[j].1]=(s.2.2.2.1.take (j+1)).map λc=>c.1:=by rw[<-zcN ap,zaY];rfl
   rw[e];cases t with
   |true=>rw[zC,zgC];exact zld s h a n (j+1) k true (by omega) (by omega)
   |false=>rw[zD,zbX];exact zld s h a n (j+1) k _ (by omega) (by omega)
theorem zts(s:aW)(h:cZ s):vC s=some (gx s):=by
 have he:=h.pG;have hc:=h.fX;unfold vC zqd gx;rw[Zj s.1 h.gW,zc];cases decide ((ij s.1).1=0) with
 |false=>rfl
 |true=>
  rw[ab,zD,zD,Cm s.1 39 h.gW,zc];cases bC s.1 39 with
  |false=>rfl
  |true=>
   dsimp only;rw[ab,zD,zD];have e1:=T4 s h (aX s.1 39) s.2.2.1.length 0 af (by omega) (by rw[zo];omega);rw[zbd,GS,show((0:Nat):Int)=0 from rfl] at e1;rw[e1,zc];cases gK s.1 [] s.2.2.1 0 with
   |some e=>rfl
   |none=>
    dsimp only;rw[zaA];unfold zqe;dsimp only;obtain⟨t',e2⟩:=zld s h (aX s.1 39) s.2.2.2.1.length 0 af false (by omega) (by rw[zo];omega);rw[zbd,GS,show((0:Nat):Int)=0 from rfl,zbK] at e2;rw[e2,zc];cases fC (aX s.1 39) [] s.2.2.2.1 0 with
    |some e=>rfl
    |none=>dsimp only;rw[zaA];unfold zqf;rw[Ww,zbX];dsimp only;cases decide ((0:Int)∈s.2.2.2.1.map λc=>c.1)<;>rfl
theorem zt9(l:List aQ)(hl:l.length<=9223372036854775807)(m:Nat)(hm:m<=l.length)(e:Int):∀(n j k:Nat),j+n=m->n<k->∃r,yn k l (m:Int) e (j:Int)=some r/\(e∈((l.take m).drop j).map (λv=>v.1)->∃i,r= .inl i/\0<=i)/\(e∉((l.take m).drop j).map (λv=>v.1)->r= .inr ())
 |n,j,0,_,hk=>by omega
 |0,j,k+1,hj,hk=>by unfold yn Mo;rw[zF (by omega),zD,GA (by rw[Of];omega)];exact⟨_,rfl,λh=>(by cases h),λ_=>rfl⟩
 |n+1,j,k+1,hj,hk=>by
  have ap:j<l.length:=by omega
  have gO:j<(l.take m).length:=by rw[Of];omega
  unfold yn Mo;rw[zT (by omega),zC,zh ap,ba,FC ap,AT gO,zaq,List.getElem_take];by_cases he:l[j].1=e
  ·rw[zT he,zC];exact⟨_,rfl,λ_=>⟨(j:Int),rfl,by omega⟩,λhn=>absurd (by rw[he];exact IS) hn⟩
  ·rw[zF he,zD];dsimp only;rw[zq (by omega)];obtain⟨r,h1,h2,h3⟩:=zt9 l hl m hm e n (j+1) k (by omega) (by omega);exact⟨r,h1,λhm=>h2 ((If.1 hm).resolve_left λe2=>he e2.symm),λhn=>h3 λhm=>hn (Cs _ hm)⟩
theorem Ud(l:List aQ)(hl:l.length<=maxLen)(m:Nat)(hm:m<=l.length)(e:Int):∃r,lK l (m:Int) e=some r/\decide (0<=r)=decide (e∈(l.take m).map λv=>v.1):=by
 unfold lK ZV;rw[zj] at hl;obtain⟨r,h1,h2,h3⟩:=zt9 l (by omega) m hm e m 0 af (by omega) (by rw[zo];omega);rw[show((0:Nat):Int)=0 from rfl] at h1;dsimp only;rw[h1,zc];rw[GS] at h2 h3;by_cases dD:e∈(l.take m).map λv=>v.1
 ·obtain⟨i,rfl,hi⟩:=h2 dD;exact⟨i,rfl,by rw[zT hi,zT dD]⟩
 ·rw[h3 dD];exact⟨-1,rfl,by rw[zF dD];rfl⟩
theorem zt3(s:aW)(h:cZ s)(t5:Int):∀(n j k:Nat),j+n=s.2.2.1.length->n<k->Mm k t5 (j:Int) s=some (match gK s.1 (s.2.2.1.take j) (s.2.2.1.drop j) j with
 |some e=> .inl (e.1,2,e.2,t5,s)
 |none=> .inr (t5,s))
 |n,j,0,_,hk=>by omega
 |0,j,k+1,hj,hk=>by unfold Mm ZS;rw[zF (by omega),zD,GA (by omega)];rfl
 |n+1,j,k+1,hj,hk=>by
  have ap:j<s.2.2.1.length:=by omega
  have he:=h.pG;have ih:=zt3 s h t5 n (j+1) k (by omega) (by omega);have hw:∀{R:Type} (z:Option R),zd (j:Int) s.2.2.1.length z=z:=λz=>zh ap;unfold Mm ZS;simp only[hw];rw[zT (by omega),zC,ba,FC ap,Fq s.1 _ h.gW,zc,AT ap,gK];unfold ld;rcases Fs s.1 s.2.2.1[j] with⟨h1,h2,_⟩|⟨h1,_,h2,_⟩
  ·rw[h1,h2];rfl
  ·rw[h2,zF (by omega),zD,ab,zD];cases decide (s.2.2.1[j]=39) with
   |true=>rfl
   |false=>
    rw[zD,zD,zT (by omega),zC,zT (by omega),zC,GS,zmu _ _ (by rw[Of,zj];omega),zc];cases decide (s.2.2.1[j]∈s.2.2.1.take j) with
    |true=>rfl
    |false=>rw[zD,zD,zT rfl,zC];rw[zq (by omega),zcN ap];exact ih
theorem zt2(s:aW)(h:cZ s)(t5:Int)(h5:0<=t5/\t5<s.1.2.2.1.length)(hs5:an s.1.2.2.1 t5.toNat dk=aX s.1 39):∀(n j k:Nat),j+n=s.2.2.2.1.length->n<k->Mn k t5 (j:Int) s=some (match fC (aX s.1 39) ((s.2.2.2.1.take j).map λc=>c.1) (s.2.2.2.1.drop j) j with
 |some e=> .inl (e.1,3,e.2,s)
 |none=> .inr s)
 |n,j,0,_,hk=>by omega
 |0,j,k+1,hj,hk=>by unfold Mn ZT;rw[zF (by omega),zD,GA (by omega)];rfl
 |n+1,j,k+1,hj,hk=>by
  have ap:j<s.2.2.2.1.length:=by omega
  have he:=h.fX;have ih:=zt2 s h t5 h5 hs5 n (j+1) k (by omega) (by omega);have hw:∀{R:Type} (z:Option R),zd (j:Int) s.2.2.2.1.length z=z:=λz=>zh ap;have hw5:∀{R:Type} (z:Option R),zd t5 s.1.2.2.1.length z=z:=λz=>zl h5.1 h5.2;have ht:=h.oq _ (zan ap);obtain⟨r,f1,f2⟩:=Ud s.2.2.2.1 (by rw[zj];omega) j (by omega) s.2.2.2.1[j].1;unfold Mn ZT;simp only[hw,hw5];rw[zT (by omega),zC,ba,FC ap,f1,zc,f2,hs5,xB _ _ ht,zc,AT ap,fC];unfold iV;cases decide (s.2.2.2.1[j].1<0) with
  |true=>rfl
  |false=>
   rw[zD,zD];cases decide (16<s.2.2.2.1[j].1) with
   |true=>rfl
   |false=>
    rw[zD,zD];cases decide (s.2.2.2.1[j].1∈(s.2.2.2.1.take j).map λc=>c.1) with
    |true=>rfl
    |false=>
     rw[zD,zD];cases decide (bJ (aX s.1 39) s.2.2.2.1[j].2.1=0) with
     |false=>rfl
     |true=>
      rw[ab,zD,zC];have e:(s.2.2.2.1.take j).map (λc=>c.1)++ [s.2.2.2.1[j].1]=(s.2.2.2.1.take (j+1)).map λc=>c.1:=by rw[<-zcN ap,zaY];rfl
      rw[zq (by omega),e];exact ih
theorem zwt(s:aW)(h:cZ s):vh s=some (gx s):=by
 have he:=h.pG;have hc:=h.fX;unfold vh zon gx;rw[Y3 s.1 h.gW,zc];cases decide ((ij s.1).1=0) with
 |false=>rfl
 |true=>
  rw[ab,zD,zD,Fq s.1 39 h.gW,zc];rcases Fs s.1 39 with⟨h1,h2,_⟩|⟨h1,h1',h2,h3⟩
  ·rw[h1,h2];rfl
  ·rw[h2,zF (by omega),zD,ab,zD];dsimp only;have e1:=zt3 s h (eX s.1.2.2.1 39 0) s.2.2.1.length 0 af (by omega) (by rw[zo];omega);rw[zbd,GS,show((0:Nat):Int)=0 from rfl] at e1;rw[e1,zc];cases gK s.1 [] s.2.2.1 0 with
   |some e=>rfl
   |none=>
    dsimp only;rw[zaA];unfold zoo;dsimp only;have e2:=zt2 s h (eX s.1.2.2.1 39 0) ⟨h1,h1'⟩ h3 s.2.2.2.1.length 0 af (by omega) (by rw[zo];omega);rw[zbd,GS,show((0:Nat):Int)=0 from rfl,zbK] at e2;rw[e2,zc];cases fC (aX s.1 39) [] s.2.2.2.1 0 with
    |some e=>rfl
    |none=>
     dsimp only;rw[zaA];unfold zop;obtain⟨r,f1,f2⟩:=Ud s.2.2.2.1 (by rw[zj];omega) s.2.2.2.1.length (zag _) 0;rw[zaH] at f2;rw[f1,zc];by_cases hr:0<=r
     ·rw[zT hr] at f2;rw[zF (by omega),<-f2];rfl
     ·rw[zF hr] at f2;rw[zT (by omega),<-f2];rfl
abbrev xI:=List aW×Int×Unit
abbrev apW:zg:=((0:Int),(0:Int),([]:List Spec),())
abbrev mz:aW:=(apW,R5,([]:List Int),([]:List aQ),())
abbrev Sn:Ty:= .pair (.int .i64) (.pair .str .unit)
abbrev xm:Ty:= .pair apY (.pair So (.pair (.sl 0 (.int .i64)) (.pair (.sl 0 Sn) .unit)))
abbrev zsw:Ty:= .pair (.arr 2 xm) (.pair (.int .i64) .unit)
theorem aji{c:xI}(h:c.1.length=2):∃p q,c=([p,q],c.2.1,()):=by
 obtain⟨l,n,u⟩:=c
 match l,h with
 | [p,q],_=>exact⟨p,q,rfl⟩
theorem O2:∃k,af=k+1+1+1:=⟨af-3,by rw[zo]⟩
def O3(s:aW):Bool:=decide ((200:Int)<(s.1.2.2.1.length:Int))||(decide ((300:Int)<(s.2.2.1.length:Int))||(decide ((300:Int)<(s.2.2.2.1.length:Int))||s.2.2.2.1.any λc=>decide ((1200:Int)<(c.2.1.size:Int))))
theorem YI:∀(l:List aQ) (i:Int),aV (λi (x:aQ) (s:Unit) K=>(bif(decide ((1200:Int)<((x.2.1).size:Int))) then some (Sum.inl true) else K s)) (λ_=>some (Sum.inr ())) l i ()=some (bif l.any (λc=>decide ((1200:Int)<(c.2.1.size:Int))) then Sum.inl true else Sum.inr ())
 | [],i=>rfl
 |x::r,i=>by
  rw[aV,zdo];cases decide ((1200:Int)<(x.2.1.size:Int)) with
  |true=>rfl
  |false=>exact YI r (i+1)
theorem zwu(s:aW)(h:s.2.2.2.1.length<=maxLen):nv s=some (O3 s):=by
 unfold nv zot O3;cases decide ((200:Int)<(s.1.2.2.1.length:Int)) with
 |true=>rfl
 |false=>
  rw[zD,zbX];cases decide ((300:Int)<(s.2.2.1.length:Int)) with
  |true=>rfl
  |false=>
   rw[zD,zbX];cases decide ((300:Int)<(s.2.2.2.1.length:Int)) with
   |true=>rfl
   |false=>
    rw[zD,zbX];have:=cn Ff s.2.2.2.1 h (λi (x:aQ) (s:Unit) K=>(bif(decide ((1200:Int)<((x.2.1).size:Int))) then some (Sum.inl true) else K s)) (λ_=>some (Sum.inr ()))
     (λk i u=>ZU k i s) (λk i u=>rfl) ()
    dsimp only;rw[this,YI];cases s.2.2.2.1.any (λc=>decide ((1200:Int)<(c.2.1.size:Int)))<;>rfl
theorem Uh{s:aW}(h:O3 s=false):cZ s/\s.1.2.2.1.length<=200/\s.2.2.1.length<=300/\s.2.2.2.1.length<=300/\∀c∈s.2.2.2.1,c.2.1.size<=1200:=by
 unfold O3 at h;simp only[za8,decide_eq_false_iff_not] at h;obtain⟨h1,h2,h3,h4⟩:=h;have ht:∀c∈s.2.2.2.1,c.2.1.size<=1200:=λc hc=>by
  by_cases e:(1200:Int)<(c.2.1.size:Int)
  ·rw[zb0.2 ⟨c,hc,zT e⟩] at h4;cases h4
  ·omega
 exact⟨⟨by rw[zj];omega,by omega,by omega,λc hc=>by have:=ht c hc;omega⟩,by omega,by omega,by omega,ht⟩
structure cS(p q:aW):Prop where
 sp:cZ p
 sq:cZ q
 pm:dq p.2.1
 qm:dq q.2.1
 GZ:p.1.2.2.1.length<=200
 G3:q.1.2.2.1.length<=200
 pe:p.2.2.1.length<=300
 qe:q.2.2.1.length<=300
 pml:p.2.1.2.1.length<=300
 qml:q.2.1.2.1.length<=300
 acI:∀c∈p.2.2.2.1,c.2.1.size<=1200
 acJ:∀c∈q.2.2.2.1,c.2.1.size<=1200
theorem zte{m:Map}(h:FL m=false):m.2.1.length<=300:=by unfold FL at h;simp only[za8,decide_eq_false_iff_not] at h;omega
theorem ae7{p q:aW}{n:Int}(h:Wf zsw ([p,q],n,())):∃g,kd ([p,q],n,())=some g/\(g=false->cS p q):=by
 have hp:Wf xm p:=h.1.2 p (by simp);have hq:Wf xm q:=h.1.2 q (by simp);have w0:∀{R:Type} (x:Option R),zd 0 2 x=x:=λx=>zl (by omega) (by omega);have w1:∀{R:Type} (x:Option R),zd 1 2 x=x:=λx=>zl (by omega) (by omega);unfold kd zoz;simp only[w0,w1];show∃g,((nv p).bind λr1=>(bif r1 then some true else((nv q).bind λr2=>(bif r2 then some true else((mK p.2.1).bind λr3=>(bif r3 then some true else((mK q.2.1).bind λr4=>some r4)))))))=some g/\_;rw[zwu p hp.2.2.2.1.1,zc];cases h1:O3 p with
 |true=>exact⟨true,rfl,λh=>by cases h⟩
 |false=>
  rw[zD,zwu q hq.2.2.2.1.1,zc];cases h2:O3 q with
  |true=>exact⟨true,rfl,λh=>by cases h⟩
  |false=>
   rw[zD,Wu hp.2.1,zc];cases h3:FL p.2.1 with
   |true=>exact⟨true,rfl,λh=>by cases h⟩
   |false=>rw[zD,Wu hq.2.1,zc];refine⟨_,rfl,λh4=> ?_⟩;obtain⟨a1,a2,a3,a4,a5⟩:=Uh h1;obtain⟨b1,b2,b3,b4,b5⟩:=Uh h2;exact⟨a1,b1,Ug h3,Ug h4,a2,b2,a3,b3,zte h3,zte h4,a5,b5⟩
def gm(p q:aW)(n:Int):Int×Int×Int:=
 bif decide (n<1) then(5,2,0) else bif decide (65535<n) then(5,2,0)
 else bif !decide ((gx p).1=0) then((gx p).1,0,1) else bif !decide ((dF p.2.1 p.1 q.1).1=0) then((dF p.2.1 p.1 q.1).1,0,2)
 else bif !decide ((gx q).1=0) then((gx q).1,1,1) else bif !decide ((dF q.2.1 q.1 p.1).1=0) then((dF q.2.1 q.1 p.1).1,1,2) else(0,0,0)
theorem oC{R:Type}(x:Option R):zd 0 2 x=x:=zl (by omega) (by omega)
theorem oE{R:Type}(x:Option R):zd 1 2 x=x:=zl (by omega) (by omega)
theorem ya:zW zI ((1:Int)-(0:Int))=1:=by decide
theorem yb:zW zI ((1:Int)-(1:Int))=0:=by decide
theorem Fg:zW zI ((0:Int)+(1:Int))=1:=by decide
theorem Fh:zW zI ((1:Int)+(1:Int))=2:=by decide
theorem gp(p q:aW):an [p,q] (0:Int).toNat mz=p:=rfl
theorem gq(p q:aW):an [p,q] (1:Int).toNat mz=q:=rfl
theorem zgr(p q:aW)(n:Int)(h:cS p q):td ([p,q],n,())=some (gm p q n):=by
 obtain⟨k,hk⟩:=O2;unfold td zqo gm;dsimp only;cases decide (n<1) with
 |true=>rfl
 |false=>
  cases decide (65535<n) with
  |true=>rfl
  |false=>
   rw[zD,zD,zD,zD,hk];unfold Mw Oc;simp only[oC,oE,ya,yb,Fg,Fh,gp,gq];rw[zT (by decide:(0:Int)<2),zC,zts p h.sp,zc];cases decide ((gx p).1=0) with
   |false=>rfl
   |true=>
    rw[ab,zD,zD,z99 p.2.1 p.1 q.1 h.pm h.sp.gW h.sq.gW,zc];cases decide ((dF p.2.1 p.1 q.1).1=0) with
    |false=>rfl
    |true=>
     rw[ab,zD,zD];unfold Mw Oc;simp only[oC,oE,ya,yb,Fg,Fh,gp,gq];rw[zT (by decide:(1:Int)<2),zC,zts q h.sq,zc];cases decide ((gx q).1=0) with
     |false=>rfl
     |true=>
      rw[ab,zD,zD,z99 q.2.1 q.1 p.1 h.qm h.sq.gW h.sp.gW,zc];cases decide ((dF q.2.1 q.1 p.1).1=0) with
      |false=>rfl
      |true=>rw[ab,zD,zD];unfold Mw Oc;rw[zF (by decide:¬(2:Int)<2),zD];rfl
theorem aez(p q:aW)(n:Int)(h:cS p q):vk ([p,q],n,())=some (gm p q n):=by
 obtain⟨k,hk⟩:=O2;unfold vk zow gm;dsimp only;cases decide (n<1) with
 |true=>rfl
 |false=>
  cases decide (65535<n) with
  |true=>rfl
  |false=>
   rw[zD,zD,zD,zD,hk];unfold Mp N8;simp only[oC,oE,ya,yb,Fg,Fh,gp,gq];rw[zT (by decide:(0:Int)<2),zC,zwt p h.sp,zc];cases decide ((gx p).1=0) with
   |false=>rfl
   |true=>
    rw[ab,zD,zD,zfk p.2.1 p.1 q.1 h.pm h.sp.gW h.sq.gW,zc];cases decide ((dF p.2.1 p.1 q.1).1=0) with
    |false=>rfl
    |true=>
     rw[ab,zD,zD];unfold Mp N8;simp only[oC,oE,ya,yb,Fg,Fh,gp,gq];rw[zT (by decide:(1:Int)<2),zC,zwt q h.sq,zc];cases decide ((gx q).1=0) with
     |false=>rfl
     |true=>
      rw[ab,zD,zD,zfk q.2.1 q.1 p.1 h.qm h.sq.gW h.sp.gW,zc];cases decide ((dF q.2.1 q.1 p.1).1=0) with
      |false=>rfl
      |true=>rw[ab,zD,zD];unfold Mp N8;rw[zF (by decide:¬(2:Int)<2),zD];rfl
theorem Tt(s:aW)(h:cZ s)(h2:s.1.2.2.1.length<=200):vj s=some s:=by have he:=h.pG;have hc:=h.fX;unfold vj zor;rw[afB s.1 (by omega),zc,zT (by simp;omega),zC,zT (by simp;omega),zC];rfl
theorem sH(p q r:aW):za1 [p,q] (0:Int).toNat r=[r,q]:=rfl
theorem sI(p q r:aW):za1 [p,q] (1:Int).toNat r=[p,r]:=rfl
theorem Ey(p q:aW):an [p,q] (0:Int).toNat ((((0:Int),(0:Int),([]:List Spec),()),(([]:List bG),([]:List aS),()),([]:List Int),([]:List aQ),()):aW)=p:=rfl
theorem Ez(p q:aW):an [p,q] (1:Int).toNat ((((0:Int),(0:Int),([]:List Spec),()),(([]:List bG),([]:List aS),()),([]:List Int),([]:List aQ),()):aW)=q:=rfl
theorem afD(p q:aW)(n:Int)(h:cS p q):vl ([p,q],n,())=some ([p,q],n,()):=by obtain⟨k,hk⟩:=O2;unfold vl zoy;dsimp only;rw[hk];unfold Mq N9;simp only[oC,oE,ya,yb,Fg,Fh,gp,gq,Ey,Ez,sH,sI];rw[zT (by decide:(0:Int)<2),zC,Ts _ h.pm,zc,Tt p h.sp h.GZ,zc];unfold Mq N9;simp only[oC,oE,ya,yb,Fg,Fh,gp,gq,Ey,Ez,sH,sI];rw[zT (by decide:(1:Int)<2),zC,Ts _ h.qm,zc,Tt q h.sq h.G3,zc];unfold Mq N9;rw[zF (by decide:¬(2:Int)<2),zD];rfl
theorem w0{R:Type}(x:Option R):zd 0 2 x=x:=zl (by omega) (by omega)
theorem w1{R:Type}(x:Option R):zd 1 2 x=x:=zl (by omega) (by omega)
theorem ga(a b:zg):an ([a,b]:List zg) (0:Int).toNat ((0:Int),(0:Int),([]:List Spec),())=a:=rfl
theorem aet(r:aS)(b:zg)(t:ByteArray)(hp:r.2.2.2.2.1.length<=maxLen)(hb:b.2.2.1.length<=maxLen)(ht:t.size<=maxLen):ns r b t=some (zz r b t):=by
 unfold ns znl zz;rw[Fq b _ hb,ir,zfj _ _ hp,ir];rcases Fs b r.2.2.1 with⟨h1,h2,h3⟩|⟨h1,h2,h3,h4⟩
 ·rw[h1,h2,zT (by omega:(-1:Int)<0)];generalize decide (r.1=1)=k1;generalize decide (r.1=2)=k2;generalize decide (r.1=3)=k3;generalize decide (r.1=4)=k4;generalize decide (r.1=5)=k5;generalize zt r.2.2.2.2.1 t=q;obtain⟨q1,q2⟩:=q;cases k1<;>cases k2<;>cases k3<;>cases k4<;>cases k5<;>cases q2<;>rfl
 ·rw[h3,zF (by omega:¬eX b.2.2.1 r.2.2.1 0<0),zl h1 h2,h4,ajF t _ ht,ir];generalize decide (r.1=1)=k1;generalize decide (r.1=2)=k2;generalize decide (r.1=3)=k3;generalize decide (r.1=4)=k4;generalize decide (r.1=5)=k5;generalize fJ t (aX b r.2.2.1).2.2.2.1=p;generalize zt r.2.2.2.2.1 t=q;obtain⟨p1,p2⟩:=p;obtain⟨q1,q2⟩:=q;cases k1<;>cases k2<;>cases k3<;>cases k4<;>cases k5<;>cases p2<;>cases q2<;>rfl
def jf(no:Int):List aS->Int->Int
 | [],_=> -1
 |r::l,i=>if r.2.1=no then i else jf no l (i+1)
theorem zgg(no:Int):∀(l:List aS) (i:Int),0<=i->(jf no l i= -1/\l.find? (λr=>decide (r.2.1=no))=none)\/(i<=jf no l i/\jf no l i<i+l.length/\l.find? (λr=>decide (r.2.1=no))=some (l.getD (jf no l i-i).toNat dI))
 | [],i,_=> .inl ⟨rfl,rfl⟩
 |r::l,i,h=>by
  unfold jf;rw[zbB];by_cases e:r.2.1=no
  ·rw[if_pos e,zT e];right;refine⟨by omega,by simp only[ls];omega,?_⟩;rw[show(i-i).toNat=0 by omega];rfl
  ·rw[if_neg e,zF e];rcases zgg no l (i+1) (by omega) with⟨h1,h2⟩|⟨h1,h2,h3⟩
   ·exact .inl ⟨h1,h2⟩
   ·right;refine⟨by omega,by simp only[ls];omega,?_⟩;rw[h3];congr 1;have:(jf no l (i+1)-i).toNat=(jf no l (i+1)-(i+1)).toNat+1:=by omega
    rw[this];rfl
def exR(r:Int):Sum Int Unit:=bif decide (r<0) then .inr () else .inl r
theorem VQ(no:Int):∀(l:List aS) (i:Int),0<=i->aV (λi (x:aS) (s:Unit) K=>(bif(decide (x.2.1=no)) then some (Sum.inl i) else K s)) (λ_=>some (Sum.inr ())) l i ()=some (exR (jf no l i))
 | [],i,_=>rfl
 |x::r,i,h=>by
  rw[aV,jf];by_cases e:x.2.1=no
  ·rw[zT e,zC,if_pos e];unfold exR;rw[zF (by omega)];rfl
  ·rw[zF e,zD,if_neg e];exact VQ no r (i+1) (by omega)
theorem ahD(m:Map)(no:Int)(h:m.2.1.length<=maxLen):nu m no=some (jf no m.2.1 0):=by
 unfold nu zof;dsimp only;have:=cn dI m.2.1 h (λi (x:aS) (s:Unit) K=>(bif(decide (x.2.1=no)) then some (Sum.inl i) else K s)) (λ_=>some (Sum.inr ()))
  (λk i s=>ZQ k no i m) (λk i s=>rfl) ()
 rw[this,VQ no m.2.1 0 (zaT _),zc];unfold exR;rcases zgg no m.2.1 0 (zaT _) with⟨h1,_⟩|⟨h1,_⟩
 ·rw[h1];rfl
 ·rw[zF (by omega)];rfl
abbrev p9:=ByteArray×List aQ×Map×bu×bV
theorem Wt(m:Map)(b:zg)(t:ByteArray)(hm:dq m)(hb:b.2.2.1.length<=maxLen):∀(l:List aQ) (i:Int) (s:List aQ),s.length+l.length<=1000000->(∀v∈l,v.2.1.size<=1099511627776)->
 (∃f s',js m b l= .inl f/\aV (λi (v:aQ) (s:List aQ) K=>((nu m v.1).bind λr4=>(bif(decide (r4<(0:Int))) then some (Sum.inl (t,s,m,bn,((9:Int),v.1,()))) else(zd r4 m.2.1.length ((ns (an m.2.1 r4.toNat dI) b v.2.1).bind λr5=>(bif(!(decide (r5.2=(0:Int)))) then some (Sum.inl (t,s,m,bn,(r5.2,v.1,()))) else(bif(decide ((s.length+(aa ([r5.1]:List aQ)))*24<=140737488355328)) then K (s++([r5.1]:List aQ)) else none))))))) (λs=>some (Sum.inr (t,s,m,bn,zu))) l i s=some (.inl (t,s',m,bn,f):Sum p9 p9))\/
 (∃ys,js m b l= .inr ys/\aV (λi (v:aQ) (s:List aQ) K=>((nu m v.1).bind λr4=>(bif(decide (r4<(0:Int))) then some (Sum.inl (t,s,m,bn,((9:Int),v.1,()))) else(zd r4 m.2.1.length ((ns (an m.2.1 r4.toNat dI) b v.2.1).bind λr5=>(bif(!(decide (r5.2=(0:Int)))) then some (Sum.inl (t,s,m,bn,(r5.2,v.1,()))) else(bif(decide ((s.length+(aa ([r5.1]:List aQ)))*24<=140737488355328)) then K (s++([r5.1]:List aQ)) else none))))))) (λs=>some (Sum.inr (t,s,m,bn,zu))) l i s=some (.inr (t,s++ys,m,bn,zu):Sum p9 p9))
 | [],i,s,_,_=> .inr ⟨[],rfl,by simp [aV]⟩
 |v::r,i,s,h,ht=>by
  simp only[ls] at h;have hl:=hm.len;have hv:=ht v IS;rw[aV,ahD m v.1 (by rw[zj];omega),zc,js];unfold eK;rcases zgg v.1 m.2.1 0 (zaT _) with⟨h1,h2⟩|⟨h1,h2,h3⟩
  ·rw[h1,h2,zT (by omega:(-1:Int)<0)];exact .inl ⟨_,s,rfl,rfl⟩
  ·rw[zel] at h3;have hq:an m.2.1 (jf v.1 m.2.1 0).toNat dI∈m.2.1:=by rw[be,ks (by omega)];exact zan _
   rw[h3,zF (by omega:¬jf v.1 m.2.1 0<0),zD,zl h1 (by omega)];generalize an m.2.1 (jf v.1 m.2.1 0).toNat dI=q at*;have qp:=(hm.rules q hq).fj.len;dsimp only;rw[aet q b v.2.1 (by rw[zj];omega) hb (by rw[zj];omega),zc];generalize zz q b v.2.1=y;cases decide (y.2=0) with
   |false=>exact .inl ⟨_,s,rfl,rfl⟩
   |true=>
    rw[ab,zD,zD,zT (by simp only[By];omega),zC];rcases Wt m b t hm hb r (i+1) (s++ [y.1]) (by rw[th,By];omega) (λw hw=>ht w (Cs _ hw)) with⟨f,s',e1,e2⟩|⟨ys,e1,e2⟩
    ·exact .inl ⟨f,s',by rw[e1],e2⟩
    ·refine .inr ⟨y.1::ys,by rw[e1],?_⟩;rw[e2,MM];rfl
theorem zbc{ρ:Type}(fin:List aQ->Option ρ):∀(l:List aS) (i:Int) (s:List aQ),s.length+l.length<=1000000->
 aV (λi (r:aS) (s:List aQ) K=>(bif(decide (r.1=(3:Int))) then(bif(decide ((s.length+(aa ([(r.2.2.1,r.2.2.2.1,())]:List aQ)))*24<=140737488355328)) then K (s++([(r.2.2.1,r.2.2.2.1,())]:List aQ)) else none) else K s)) fin l i s=fin (s++iG l)
 | [],i,s,_=>by show fin s=_;simp [iG]
 |r::l,i,s,h=>by
  simp only[ls] at h;rw[aV];unfold iG;rw[zbO];cases decide (r.1=3) with
  |false=>rw[zD,if_neg (by decide)];exact zbc fin l (i+1) s (by omega)
  |true=>rw[zC,if_pos rfl,zT (by simp only[By];omega),zC];refine(zbc fin l (i+1) _ (by rw[th,By];omega)).trans ?_;rw[MM];rfl
theorem zce{ρ:Type}(no:Int)(fin:bu->Option ρ):∀(l:List aQ) (i:Int) (s:bu),s.2.1.length+l.length<=1000000000->
 aV (λi (v:aQ) (s:bu) K=>(bif(decide (v.1=no)) then(bif(decide ((s.2.1.length+(aa ([v]:List aQ)))*24<=140737488355328)) then K (s.1,(s.2.1++([v]:List aQ)),()) else none) else K s)) fin l i s=fin (s.1,s.2.1++l.filter (λv=>decide (v.1=no)),())
 | [],i,s,_=>by show fin s=_;simp
 |v::l,i,s,h=>by
  simp only[ls] at h;rw[aV,zbO];cases decide (v.1=no) with
  |false=>rw[zD,if_neg (by decide)];exact zce no fin l (i+1) s (by omega)
  |true=>rw[zC,if_pos rfl,zT (by simp only[By];omega),zC];refine(zce no fin l (i+1) _ (by show(s.2.1++ [v]).length+_<=_;rw[th,By];omega)).trans ?_;show fin (s.1,(s.2.1++ [v])++_,())=_;rw[MM];rfl
theorem apG(vs:List aQ)(hv:vs.length<=1000000)(no:Int)(s:bu)(h:s.2.1.length+vs.length<=1000000000):ym af vs no 0 bn zu s=some (vs,no,bn,zu,(s.1,s.2.1++vs.filter (λv=>decide (v.1=no)),())):=by
 have:=gf fT vs (by rw[zj];omega) (λi (v:aQ) (s:bu) K=>(bif(decide (v.1=no)) then(bif(decide ((s.2.1.length+(aa ([v]:List aQ)))*24<=140737488355328)) then K (s.1,(s.2.1++([v]:List aQ)),()) else none) else K s)) (λs=>some (vs,no,bn,zu,s))
  (λk i s=>ym k vs no i bn zu s) (λk i s h0 h1=>by
    show ym (k+1) vs no i bn zu s=_
    conv=>lhs;unfold ym ZP
    rw[zT h1,zC,zl h0 h1,zl h0 h1]) (λk s=>by
    show ym (k+1) vs no vs.length bn zu s=_
    conv=>lhs;unfold ym ZP
    rw[zF (by omega),zD]) s
 rw[this,zce no _ _ _ _ h]
theorem XD(vs:List aQ)(hv:vs.length<=1000000):∀(n j k:Nat) (s:bu),j+n=129->n<k->s.2.1.length+(n+1)*vs.length<=1000000000->Mk k vs (j:Int) bn zu s=some (bn,zu,(s.1,s.2.1++nf vs n j,()))
 |n,j,0,s,_,hk,_=>by omega
 |0,j,k+1,s,hj,hk,_=>by unfold Mk ZO;rw[zF (by omega),zD];simp [nf]
 |n+1,j,k+1,s,hj,hk,h=>by
  unfold Mk ZO;have hmul:(n+1+1)*vs.length=(n+1)*vs.length+vs.length:=by rw[Nat.add_mul,Nat.one_mul]
  rw[zT (by omega),zC];dsimp only;rw[apG vs hv (j:Int) s (by rw[hmul] at h;omega),zc];unfold zod;dsimp only;rw[zq (by omega)];have hf:(vs.filter λv=>decide (v.1=(j:Int))).length<=vs.length:=zcD _ _;refine(XD vs hv n (j+1) k _ (by omega) (by omega) (by show(s.2.1++vs.filter λv=>decide (v.1=(j:Int))).length+_<=_;rw[th];rw[hmul] at h;omega)).trans ?_
  show some (bn,zu,(s.1,(s.2.1++vs.filter λv=>decide (v.1=(j:Int)))++nf vs n (j+1),()))=_;rw[MM];rfl
theorem zt7{m:Map}{b:zg}:∀{l ys:List aQ},js m b l= .inr ys->ys.length=l.length
 | [],ys,h=>by cases h;rfl
 |v::r,ys,h=>by
  rw[js] at h;cases hf:eK m v.1 with
  |none=>rw[hf] at h;cases h
  |some q=>
   rw[hf] at h;dsimp only at h;cases hz:decide ((zz q b v.2.1).2=0) with
   |false=>rw[hz] at h;cases h
   |true=>
    rw[hz,ab,zD] at h;cases hr:js m b r with
    |inl f=>rw[hr] at h;cases h
    |inr zs=>rw[hr] at h;cases h;rw[ls,ls,zt7 hr]
theorem aeN(l:List aS):(iG l).length<=l.length:=by unfold iG;rw[zaR];exact zcD _ _
theorem aeH(m:Map)(a b:zg)(h:dq m)(ha:a.2.2.1.length<=maxLen)(hb:b.2.2.1.length<=maxLen):ve m a b=some (decide ((dF m a b).1=0)):=by unfold ve zo5;rw[zfk m a b h ha hb,zc]
theorem acQ(m:Map)(a b:zg)(x:bu)(hm:dq m)(EJ:m.2.1.length<=300)(hx:dP x)(sB:x.2.1.length<=200)(ha:a.2.2.1.length<=maxLen)(hb:b.2.2.1.length<=maxLen):sY m a b x=some (O4 m a b x):=by
 have hl:=hm.m5.len;unfold sY zoa O4;rw[aeH m a b hm ha hb,zc];cases decide ((dF m a b).1=0) with
 |false=>rfl
 |true=>
  rw[ab,zD,zD,aew a x ha hx,zc];cases decide ((fP a x).1=0) with
  |false=>rfl
  |true=>
   rw[ab,zD,zD,zfj _ _ (by rw[zj];omega),zc];cases(zt m.1 x.1).2 with
   |false=>rfl
   |true=>
    rw[ab,zD,zD];dsimp only;have h1:=gf fT x.2.1 (by rw[zj];omega) (λi (v:aQ) (s:List aQ) K=>((nu m v.1).bind λr4=>(bif(decide (r4<(0:Int))) then some (Sum.inl ((zt m.1 x.1).1,s,m,bn,((9:Int),v.1,()))) else(zd r4 m.2.1.length ((ns (an m.2.1 r4.toNat dI) b v.2.1).bind λr5=>(bif(!(decide (r5.2=(0:Int)))) then some (Sum.inl ((zt m.1 x.1).1,s,m,bn,(r5.2,v.1,()))) else(bif(decide ((s.length+(aa ([r5.1]:List aQ)))*24<=140737488355328)) then K (s++([r5.1]:List aQ)) else none))))))) (λs=>some (Sum.inr ((zt m.1 x.1).1,s,m,bn,zu)))
     (λk i s=>Cx k (zt m.1 x.1).1 s i m b x bn zu bn) (λk i s h0 h1=>by
       show Cx (k+1) (zt m.1 x.1).1 s i m b x bn zu bn=_
       conv=>lhs;unfold Cx ZM
       have hw:∀{R:Type} (z:Option R),zd i x.2.1.length z=z:=λz=>zl h0 h1;simp only[hw,zT h1,zC]) (λk s=>by
       show Cx (k+1) (zt m.1 x.1).1 s x.2.1.length m b x bn zu bn=_
       conv=>lhs;unfold Cx ZM
       rw[zF (by omega),zD]) []
    rw[h1];rcases Wt m b (zt m.1 x.1).1 hm hb x.2.1 0 [] (by simp;omega) hx.oq with⟨f,s',e1,e2⟩|⟨ys,e1,e2⟩
    ·rw[e2,e1];rfl
    ·rw[e2,e1,zc];rw[zaA];unfold zob;dsimp only;rw[zah];have tO:=zt7 e1;have h2:=gf dI m.2.1 (by rw[zj];omega) (λi (r:aS) (s:List aQ) K=>(bif(decide (r.1=(3:Int))) then(bif(decide ((s.length+(aa ([(r.2.2.1,r.2.2.2.1,())]:List aQ)))*24<=140737488355328)) then K (s++([(r.2.2.1,r.2.2.2.1,())]:List aQ)) else none) else K s)) (λs=>some ((zt m.1 x.1).1,s,bn,zu))
      (λk i s=>Cy k (zt m.1 x.1).1 s i m bn zu) (λk i s h0 h1=>by
        show Cy (k+1) (zt m.1 x.1).1 s i m bn zu=_
        conv=>lhs;unfold Cy ZN
        have hw:∀{R:Type} (z:Option R),zd i m.2.1.length z=z:=λz=>zl h0 h1;simp only[hw,zT h1,zC]) (λk s=>by
        show Cy (k+1) (zt m.1 x.1).1 s m.2.1.length m bn zu=_
        conv=>lhs;unfold Cy ZN
        rw[zF (by omega),zD]) ys
     rw[h2,zbc _ _ _ _ (by omega),zc];unfold zoc;dsimp only;have hc:=aeN m.2.1;have x7:(ys++iG m.2.1).length<=500:=by rw[th];omega
     have h3:=XD (ys++iG m.2.1) (by omega) 127 2 af ((zt m.1 x.1).1,[],()) (by omega) (by rw[zo];omega) (by show([]:List aQ).length+_<=_;simp only[zav];omega)
     rw[show((2:Nat):Int)=(2:Int) from rfl] at h3;rw[h3,zc];rfl
def de(m:ByteArray):ByteArray:=strOf [ze m 0,ze m 1,ze m 2+1,ze m 3]
theorem Xo{m:ByteArray}(h:m.size=4):bl m=[ze m 0,ze m 1,ze m 2,ze m 3]:=by
 have hl:(bl m).length=4:=by rw[zf];exact h
 have e:=λi=>lW m i
 match hb:bl m,hl with
 | [a,b,c,d],_=>rw[e 0,e 1,e 2,e 3,hb];rfl
theorem Zi{m:ByteArray}(h:dY m=true):fU m=true/\(ze m 2=48\/ze m 2=50):=by unfold dY at h;rw[nd,zcJ,decide_eq_true_eq,decide_eq_true_eq] at h;exact h
theorem z198{m:ByteArray}(h:dY m=true):bl (de m)=[ze m 0,ze m 1,ze m 2+1,ze m 3]/\bE [ze m 0,ze m 1,ze m 2+1,ze m 3]=true:=by obtain⟨hr,h2⟩:=Zi h;have d0:=sQ hr 0 (by decide);have d1:=sQ hr 1 (by decide);have d3:=sQ hr 3 (by decide);have hd:bE [ze m 0,ze m 1,ze m 2+1,ze m 3]=true:=ud.2 ⟨uc.2 d0,ud.2 ⟨uc.2 d1,ud.2 ⟨uc.2 (by omega),ud.2 ⟨uc.2 d3,rfl⟩⟩⟩⟩;exact⟨ue (TW hd),hd⟩
theorem apV{m:ByteArray}(h:dY m=true):fU (de m)=true/\eC (de m)=eC m/\dY (de m)=false:=by
 obtain⟨hr,h2⟩:=Zi h;obtain⟨hb,hd⟩:=z198 h;have hs:(de m).size=4:=by rw[<-zf,hb];rfl
 have fc:fU (de m)=true:=oQ.2 ⟨hs,by rw[hb];exact hd⟩;have e0:ze (de m) 0=ze m 0:=by rw[lW (de m),hb];rfl
 have e2:ze (de m) 2=ze m 2+1:=by rw[lW (de m),hb];rfl
 refine⟨fc,?_,?_⟩
 ·unfold eC;rw[hr,fc,e0]
 ·unfold dY;rw[fc,e2,zF (by omega),zF (by omega)];rfl
theorem adZ(m:ByteArray)(h:m.size<=maxLen):vz m=some (if dY m=true then(de m,true) else(bs [],false)):=by
 unfold vz zq1;rw[zft m h,zc];cases hr:dY m with
 |false=>rfl
 |true=>
  obtain⟨dX,h2⟩:=Zi hr;have h4:=(oQ.1 dX).1;have hb:=Xo h4;have z1:(m.extract 0 2).size=2:=by rw[zar];omega
  have z3:(m.extract 3 m.size).size=1:=by rw[zar];omega
  have zs:∀x:Int,(strOf [x]).size=1:=λx=>by rw[lV];rfl
  have hw:zW zU (ze m 2+1)=ze m 2+1:=by rcases h2 with e|e<;>rw[e]<;>decide
  rw[ab,zD,show((2:Int)).toNat=2 from rfl,show((3:Int)).toNat=3 from rfl,zT (by omega),zC,show(2:Int)=((2:Nat):Int) from rfl,zh (by omega),hw,zT (by rw[z1,zs];decide),zC,zT (by omega),zC,zT (by rw[xG,z1,zs,z3];decide),zC,if_pos rfl];congr 2;apply xK;rw[oH,oH,xC,xC,h4,hb,(z198 hr).1];have hx:zn (ze m 2+1):=by unfold zn;omega
  rw[ue (xs:=[ze m 2+1]) (by simpa using hx)];rfl
theorem acV(m:ByteArray)(hr:dY m=true):uU m=some (de m):=by
 obtain⟨dX,h2⟩:=Zi hr;obtain⟨h4,hd⟩:=oQ.1 dX;obtain⟨hb,hJ⟩:=z198 hr;have hm:=Xo h4;have d0:=sQ dX 0 (by decide);have d1:=sQ dX 1 (by decide);have d3:=sQ dX 3 (by decide);unfold uU zmv;have hg:du (bl m)=(dG (bl m) 0,true):=by unfold du;rw[if_pos ⟨by rw[zf];omega,by rw[zf];omega,hd⟩]
 have hv:dG (bl m) 0=1000*(ze m 0-48)+100*(ze m 1-48)+10*(ze m 2-48)+(ze m 3-48):=by rw[hm];unfold dG;simp only[List.foldl];omega
 have GN:dG [ze m 0,ze m 1,ze m 2+1,ze m 3] 0=dG (bl m) 0+10:=by rw[hv];unfold dG;simp only[List.foldl];omega
 have hw:zW zI (dG (bl m) 0+10)=dG (bl m) 0+10:=zi (by omega) (by omega);obtain⟨g1,g2⟩:=zw6 4 (dG (bl m) 0+10).toNat _ hJ rfl (by rw[GN,zaG (by omega)]);rw[zfm m (by rw[zj];omega),zc,hg];dsimp only;rw[hw,Vb _ _ (by omega),zc,zm9 ⟨by omega,by decide,by decide,g2⟩];dsimp only;rw[show((4:Int)).toNat=4 from rfl,g1];rfl
def eB(l:List aQ)(no:Int):Option aQ:=l.find? λv=>decide (v.1=no)
theorem VI(no:Int):∀(l:List aQ) (i:Int),aV (λi (x:aQ) (s:Unit) K=>bif decide (x.1=no) then some (Sum.inl (x.2.1,true)) else K s) (λ_=>some (Sum.inr ())) l i ()=some (match eB l no with
 |some v=> .inl (v.2.1,true)
 |none=>(.inr ():Sum iH Unit))
 | [],i=>rfl
 |x::r,i=>by
  rw[aV];unfold eB;rw[zbB];cases hx:decide (x.1=no) with
  |true=>rfl
  |false=>exact VI no r (i+1)
theorem z236(m:bu)(no:Int)(h:m.2.1.length<=1000000):pj m no=some (match eB m.2.1 no with
 |some v=>(v.2.1,true)
 |none=>(bs [],false)):=by
 unfold pj zpu;dsimp only;have:=cn fT m.2.1 (by rw[zj];omega) (λi (x:aQ) (s:Unit) K=>bif decide (x.1=no) then some (Sum.inl (x.2.1,true)) else K s) (λ_=>some (Sum.inr ())) (λk i s=>Z4 k no m.2.1 (m.2.1.length:Int) i) (λk i s=>rfl) ();rw[this,VI];cases eB m.2.1 no<;>rfl
def iB(no:Int):List aQ->Int->Int
 | [],_=> -1
 |x::r,i=>if x.1=no then i else iB no r (i+1)
theorem NO(no:Int):∀(l:List aQ) (i:Int),0<=i->(iB no l i= -1/\eB l no=none)\/(i<=iB no l i/\iB no l i<i+l.length/\eB l no=some (l.getD (iB no l i-i).toNat fT))
 | [],i,h=> .inl ⟨rfl,rfl⟩
 |x::r,i,h=>by
  unfold iB eB;rw[zbB];by_cases hx:x.1=no
  ·rw[if_pos hx,zT hx];exact .inr ⟨by omega,by simp only[ls];omega,by rw[show(i-i).toNat=0 by omega];rfl⟩
  ·rw[if_neg hx,zF hx];rcases NO no r (i+1) (by omega) with⟨h1,h2⟩|⟨h1,h2,h3⟩
   ·exact .inl ⟨h1,h2⟩
   ·refine .inr ⟨by omega,by simp only[ls];omega,?_⟩;rw[show(iB no r (i+1)-i).toNat=(iB no r (i+1)-(i+1)).toNat+1 by omega];exact h3
def Nq(r:Int):Sum Int Unit:=bif decide (r<0) then .inr () else .inl r
theorem VP(no:Int):∀(l:List aQ) (i:Int),0<=i->aV (λi (x:aQ) (s:Unit) K=>bif decide (x.1=no) then some (Sum.inl i) else K s) (λ_=>some (Sum.inr ())) l i ()=some (Nq (iB no l i))
 | [],i,_=>rfl
 |x::r,i,h=>by
  rw[aV,iB];by_cases hx:x.1=no
  ·rw[zT hx,if_pos hx];unfold Nq;rw[zF (by omega)];rfl
  ·rw[zF hx,if_neg hx];exact VP no r (i+1) (by omega)
theorem afF(m:bu)(no:Int)(h:m.2.1.length<=1000000):uW m no=some (iB no m.2.1 0):=by
 unfold uW zn0;dsimp only;have:=cn fT m.2.1 (by rw[zj];omega) (λi (x:aQ) (s:Unit) K=>bif decide (x.1=no) then some (Sum.inl i) else K s) (λ_=>some (Sum.inr ())) (λk i s=>Md k no i m) (λk i s=>by
  show Md (k+1) no i m=_
  conv=>lhs;unfold Md zn1) ()
 rw[this,VP no _ 0 (zaT _),zc];unfold Nq;rcases NO no m.2.1 0 (zaT _) with⟨h1,_⟩|⟨h1,_⟩
 ·rw[h1];rfl
 ·rw[zF (by omega)];rfl
theorem z9l{ρ:Type}(no:Int)(t:ByteArray)(q:ByteArray)(fin:Bool×bu->Option ρ):∀(l:List aQ) (i:Int) (f:Bool) (o:List aQ),o.length+2*l.length<=4000000->
 aV (λi (x:aQ) (s:Bool×bu) K=>bif !s.1 then(bif decide (no<x.1) then(bif decide ((s.2.2.1.length+([(no,t,())]:List aQ).length)*24<=140737488355328) then(bif decide (((s.2.2.1++ [(no,t,())]).length+([x]:List aQ).length)*24<=140737488355328) then K (true,(s.2.1,(s.2.2.1++ [(no,t,())])++ [x],())) else none) else none) else(bif decide ((s.2.2.1.length+([x]:List aQ).length)*24<=140737488355328) then K (s.1,(s.2.1,s.2.2.1++ [x],())) else none)) else(bif decide ((s.2.2.1.length+([x]:List aQ).length)*24<=140737488355328) then K (s.1,(s.2.1,s.2.2.1++ [x],())) else none)) (λs=>fin s) l i (f,(q,o,()))=(if f=true then fin (true,(q,o++l,())) else if(l.any λx=>decide (no<x.1))=true then fin (true,(q,o++ji no t l,())) else fin (false,(q,o++l,())))
 | [],i,f,o,_=>by cases f<;>simp [aV]
 |x::r,i,f,o,h=>by
  rw[ls] at h;have d1:decide ((o.length+([x]:List aQ).length)*24<=140737488355328)=true:=zT (by simp only[By];omega);rw[aV];dsimp only;cases f with
  |true=>rw[ab,zD,d1,zC,z9l no t q fin r (i+1) true (o++ [x]) (by rw[th,By];omega),if_pos rfl,if_pos rfl,MM];rfl
  |false=>
   rw[GW,zC,if_neg (by decide)];by_cases hx:no<x.1
   ·have d2:decide ((o.length+([(no,t,())]:List aQ).length)*24<=140737488355328)=true:=zT (by simp only[By];omega);have d3:decide (((o++ [(no,t,())]).length+([x]:List aQ).length)*24<=140737488355328)=true:=zT (by simp only[By,th];omega);rw[zT hx,zC,d2,zC,d3,zC,z9l no t q fin r (i+1) true _ (by simp only[th,By];omega),if_pos rfl,zdo,zT hx,zgC,if_pos rfl,ji,if_pos hx];simp
   ·rw[zF hx,zD,d1,zC,z9l no t q fin r (i+1) false (o++ [x]) (by rw[th,By];omega),if_neg (by decide),zdo,zF hx,zbX,ji,if_neg hx];simp
theorem VT{no:Int}{t:ByteArray}:∀{l:List aQ},¬(l.any λx=>decide (no<x.1))=true->ji no t l=l++ [(no,t,())]
 | [],_=>rfl
 |x::r,h=>by rw[zdo,zcJ,not_or] at h;have hx:¬no<x.1:=λh2=>h.1 (zT h2);rw[ji,if_neg hx,VT h.2];rfl
theorem Tz(m:bu)(no:Int)(t:ByteArray)(h:m.2.1.length<=1000000):sT m no t=some (dT m no t):=by
 have hl:=zli m.2.1 no;have hwo:uY m no=some (m.1,eJ m.2.1 no,()):=by
  unfold uY zn8;dsimp only;have:=gf fT m.2.1 (by rw[zj];omega) (λi (x:aQ) (s:bu×bu) K=>(bif(!(decide (x.1=no))) then(bif(decide ((s.2.2.1.length+(aa ([x]:List aQ)))*24<=140737488355328)) then K (s.1,(s.2.1,(s.2.2.1++([x]:List aQ)),())) else none) else K s)) (λs=>some s)
   (λk i s=>(Ct k no i m s.1 s.2)) (λk i s h0 h1=>by
     show Ct (k+1) no i m s.1 s.2=_
     conv=>lhs;unfold Ct Zy
     rw[zT h1,zC,zl h0 h1,zl h0 h1]) (λk s=>by
     show Ct (k+1) no m.2.1.length m s.1 s.2=_
     conv=>lhs;unfold Ct Zy
     rw[zF (by omega),zD]) ((bs [],[],()),(m.1,[],()))
  rw[this,z8o no _ _ _ _ (by simp;omega)];rfl
 unfold sT zn5 dT;rw[hwo,zc];dsimp only;rw[zsn];generalize eJ m.2.1 no=old at*;have hL:=gf fT old (by rw[zj];omega) (λi (x:aQ) (s:Bool×bu) K=>bif !s.1 then(bif decide (no<x.1) then(bif decide ((s.2.2.1.length+([(no,t,())]:List aQ).length)*24<=140737488355328) then(bif decide (((s.2.2.1++ [(no,t,())]).length+([x]:List aQ).length)*24<=140737488355328) then K (true,(s.2.1,(s.2.2.1++ [(no,t,())])++ [x],())) else none) else none) else(bif decide ((s.2.2.1.length+([x]:List aQ).length)*24<=140737488355328) then K (s.1,(s.2.1,s.2.2.1++ [x],())) else none)) else(bif decide ((s.2.2.1.length+([x]:List aQ).length)*24<=140737488355328) then K (s.1,(s.2.1,s.2.2.1++ [x],())) else none)) (λs=>some (no,t,s.1,bn,s.2))
  (λk i s=>Cr k no t s.1 i bn s.2 (m.1,old,())) (λk i s h0 h1=>by
    show Cr (k+1) no t s.1 i bn s.2 (m.1,old,())=_
    conv=>lhs;unfold Cr Zx
    rw[zT h1,zC];simp only[zl h0 h1]) (λk s=>by
    show Cr (k+1) no t s.1 old.length bn s.2 (m.1,old,())=_
    conv=>lhs;unfold Cr Zx
    rw[zF (by dsimp only;omega),zD]) (false,(m.1,[],()))
 rw[show((bs [],[],()):bu)=bn from rfl];have hR:=z9l no t m.1 (λs=>some (no,t,s.1,bn,s.2)) old 0 false [] (by simp;omega);dsimp only at hL;rw[hL,hR,if_neg (by decide)];by_cases ha:(old.any λx=>decide (no<x.1))=true
 ·rw[if_pos ha,zc];rfl
 ·rw[if_neg ha,zc];unfold zn6;dsimp only;rw[GW,zC,zT (by simp only[zah,By];omega),zC,VT ha];rfl
def gI(s:aW)(e:Int):ByteArray:=match eB s.2.2.2.1 e with
 |some c=>c.2.1
 |none=>match eB s.2.2.2.1 0 with
  |some c=>c.2.1
  |none=>bs []
theorem TQ(s:aW)(e:Int)(q:List Int)(n i0:Int):∀(l:List aQ) (i:Int),aV (λi (x:aQ) (u:Unit) K=>bif decide (x.1=e) then some (Sum.inl (x.2.1,q,n,i0,s)) else K u) (λ_=>some (Sum.inr (q,n,i0,s))) l i ()=some (match eB l e with
 |some v=> .inl (v.2.1,q,n,i0,s)
 |none=>(.inr (q,n,i0,s):Sum (ByteArray×List Int×Int×Int×aW) (List Int×Int×Int×aW)))
 | [],i=>rfl
 |x::r,i=>by
  rw[aV];unfold eB;rw[zbB];cases hx:decide (x.1=e) with
  |true=>rfl
  |false=>exact TQ s e q n i0 r (i+1)
theorem apu(s:aW)(hs:s.2.2.2.1.length<=1000000)(e:Int)(q:List Int)(n i0:Int):Ob af e q n i0 s.2.2.2.1 (s.2.2.2.1.length:Int) 0 s=some (match eB s.2.2.2.1 e with
 |some v=> .inl (v.2.1,q,n,i0,s)
 |none=>(.inr (q,n,i0,s):Sum (ByteArray×List Int×Int×Int×aW) (List Int×Int×Int×aW))):=by
 rw[<-TQ s e q n i0 s.2.2.2.1 0];exact cn fT s.2.2.2.1 (by rw[zj];omega) (λi (x:aQ) (u:Unit) K=>bif decide (x.1=e) then some (Sum.inl (x.2.1,q,n,i0,s)) else K u) (λ_=>some (Sum.inr (q,n,i0,s))) (λk i u=>Ob k e q n i0 s.2.2.2.1 (s.2.2.2.1.length:Int) i s) (λk i u=>rfl) ()
theorem anf(s:aW)(hs:s.2.2.2.1.length<=1000000)(e:Int):vD s e=some (gI s e):=by
 obtain⟨k,hk⟩:=O2;have h1:=apu s hs;unfold vD zqi gI;dsimp only;rw[show(aa [e,(0:Int)]:Int)=2 from rfl];have step:∀(K i:Nat) (x:Int),i<2->an [e,(0:Int)] i 0=x->Fy (K+1) [e,0] 2 (i:Int) s=match eB s.2.2.2.1 x with
  |some v=>some (.inr v.2.1)
  |none=>Fy K [e,0] 2 ((i+1:Nat):Int) s:=by
  intro K i x hi hx
  conv=>lhs;unfold Fy zdz
  rw[zT (by omega),zC,show(aa [e,(0:Int)])=2 from rfl,zh hi,ba,hx];dsimp only;rw[h1,zc];cases eB s.2.2.2.1 x with
  |some v=>rfl
  |none=>dsimp only;rw[zaA];unfold zqj;dsimp only;rw[zq (by omega)]
 have s0:=step (k+1+1) 0 e (by decide) rfl;have s1:=step (k+1) 1 0 (by decide) rfl;rw[show((0:Nat):Int)=0 from rfl] at s0;rw[hk,s0];cases eB s.2.2.2.1 e with
 |some v=>rfl
 |none=>
  dsimp only;rw[s1];cases eB s.2.2.2.1 0 with
  |some v=>rfl
  |none=>dsimp only;unfold Fy zdz;rw[zF (by decide)];rfl
theorem zls(l:List aQ)(hl:l.length<=1000000)(e:Int):∀(n j k:Nat),j+n=l.length->n<k->yn k l (l.length:Int) e (j:Int)=some (Nq (iB e (l.drop j) j))
 |n,j,0,_,hk=>by omega
 |0,j,k+1,hj,hk=>by unfold yn Mo;rw[zF (by omega),zD,GA (by omega)];rfl
 |n+1,j,k+1,hj,hk=>by
  have ap:j<l.length:=by omega
  unfold yn Mo;rw[zT (by omega),zC,zh ap,ba,FC ap,AT ap,iB];by_cases he:l[j].1=e
  ·rw[zT he,zC,if_pos he];unfold Nq;rw[zF (by omega)];rfl
  ·rw[zF he,zD,if_neg he];dsimp only;rw[zq (by omega)];exact zls l hl e n (j+1) k (by omega) (by omega)
theorem SQ(l:List aQ)(hl:l.length<=1000000)(e:Int):lK l (l.length:Int) e=some (iB e l 0):=by
 unfold lK ZV;have:=zls l hl e l.length 0 af (by omega) (by rw[zo];omega);rw[show((0:Nat):Int)=0 from rfl,GS] at this;dsimp only;rw[this,zc];unfold Nq;rcases NO e l 0 (zaT _) with⟨h1,_⟩|⟨h1,_⟩
 ·rw[h1];rfl
 ·rw[zF (by omega)];rfl
theorem afA(s:aW)(hs:s.2.2.2.1.length<=1000000)(e:Int):vi s e=some (gI s e):=by
 unfold vi zoq gI;rw[SQ _ hs,SQ _ hs,zc,zc];rcases NO e s.2.2.2.1 0 (zaT _) with⟨h1,h2⟩|⟨h1,h2,h3⟩
 ·rw[h1,h2,zT (by decide),zC];rcases NO 0 s.2.2.2.1 0 (zaT _) with⟨g1,g2⟩|⟨g1,g2,g3⟩
  ·rw[g1,g2];rfl
  ·rw[zF (by omega),zD,zl g1 (by omega),g3,zel]
 ·rw[zF (by omega),zD,zD,zl h1 (by omega),h3,zel]
def fb(l:List aQ):List Int->bu->bu
 | [],o=>o
 |no::r,o=>fb l r (match eB l no with
  |some v=>dT o no v.2.1
  |none=>o)
def um(s:aW)(m:bu)(e:Int):bu:=dT (fb m.2.1 s.2.2.1 (de m.1,[],())) 39 (gI s e)
def OZ(s:aW)(m:bu)(f:bV):bu×Bool:=if dY m.1=true then(um s m f.1,true) else(bn,false)
theorem zgn(m:bu)(no:Int)(t:ByteArray):(dT m no t).2.1.length<=m.2.1.length+1:=zc9 m no t
theorem zby(l:List aQ):∀(e:List Int) (o:bu),(fb l e o).2.1.length<=o.2.1.length+e.length
 | [],o=>zag _
 |no::r,o=>by
  rw[fb,ls];have h:=zby l r (match eB l no with
   |some v=>dT o no v.2.1
   |none=>o)
  cases hx:eB l no with
  |some v=>rw[hx] at h;have:=zgn o no v.2.1;dsimp only at h⊢;omega
  |none=>rw[hx] at h;dsimp only at h⊢;omega
theorem zlk{ρ:Type}(m:bu)(hm:m.2.1.length<=1000000)(fin:bu->Option ρ):∀(l:List Int) (i:Int) (o:bu),o.2.1.length+l.length<=1000000->
 aV (λi (x:Int) (o:bu) K=>(pj m x).bind λr2=>(bif r2.2 then((iO o x r2.1).bind λr3=>K r3) else K o)) fin l i o=fin (fb m.2.1 l o)
 | [],i,o,_=>rfl
 |x::r,i,o,h=>by
  rw[ls] at h;rw[aV,z236 m x hm,zc,fb];cases hx:eB m.2.1 x with
  |some v=>have:=zgn o x v.2.1;dsimp only;rw[zC,zfo o x _ (by omega),zc];exact zlk m hm fin r (i+1) _ (by omega)
  |none=>exact zlk m hm fin r (i+1) o (by omega)
theorem aju(s:aW)(m:bu)(f:bV)(hs:cZ s)(he:s.2.2.1.length<=300)(hm:dP m):vB s m f=some (OZ s m f):=by
 have tL:=hm.len;unfold vB zq9 OZ;rw[adZ m.1 (by rw[zj];exact hm.sC),zc];cases hr:dY m.1 with
 |false=>rfl
 |true=>rw[if_pos rfl,if_pos rfl,ab,zD];dsimp only;have hl:=cn (0:Int) s.2.2.1 (by rw[zj];omega) (λi (x:Int) (o:bu) K=>(pj m x).bind λr2=>(bif r2.2 then((iO o x r2.1).bind λr3=>K r3) else K o)) (λo=>some (s,f,bn,o)) (λk i o=>Z9 k s.2.2.1 (s.2.2.1.length:Int) i s m f bn o) (λk i o=>rfl) (de m.1,[],());have hb:=zby m.2.1 s.2.2.1 (de m.1,[],());rw[hl,zlk m (by omega) _ _ _ _ (by simp;omega),zc];unfold zqa;dsimp only at hb⊢;rw[anf s hs.fX,zc,zfo _ _ _ (by rw[zav] at hb;omega),zc];rfl
theorem zbb(s:aW)(m:bu)(f:bV)(hm:m.2.1.length<=1000000)(hs:s.2.2.1.length<=1000):∀(n j k:Nat) (o:bu),j+n=s.2.2.1.length->n<k->o.2.1.length+n<=1000000->Ml k (j:Int) s m f bn o=some (s,f,bn,fb m.2.1 (s.2.2.1.drop j) o)
 |n,j,0,o,_,hk,_=>by omega
 |0,j,k+1,o,hj,hk,_=>by unfold Ml ZR;rw[zF (by omega),zD,GA (by omega)];rfl
 |n+1,j,k+1,o,hj,hk,ho=>by
  have ap:j<s.2.2.1.length:=by omega
  have hw:∀{R:Type} (z:Option R),zd (j:Int) s.2.2.1.length z=z:=λz=>zh ap;unfold Ml ZR;rw[zT (by omega),zC,AT ap,fb];simp only[hw,ba,FC ap];rw[afF m _ hm,zc];rcases NO s.2.2.1[j] m.2.1 0 (zaT _) with⟨h1,h2⟩|⟨h1,h2,h3⟩
  ·rw[h1,h2,zF (by decide),zD,zq (by omega)];exact zbb s m f hm hs n (j+1) k o (by omega) (by omega) (by omega)
  ·rw[h3,zT h1,zC,zl h1 (by omega),zel,Tz o _ _ (by omega),zc,zq (by omega)];have:=zgn o s.2.2.1[j] (m.2.1.getD (iB s.2.2.1[j] m.2.1 0).toNat ((0:Int),bs [],())).2.1;exact zbb s m f hm hs n (j+1) k _ (by omega) (by omega) (by omega)
theorem aeu(s:aW)(m:bu)(f:bV)(hs:cZ s)(he:s.2.2.1.length<=300)(hm:dP m):vg s m f=some (OZ s m f):=by
 have tL:=hm.len;unfold vg zoj OZ;rw[zb6 m.1 (by rw[zj];exact hm.sC),zc];cases hr:dY m.1 with
 |false=>rfl
 |true=>rw[ab,zD,acV m.1 hr,zc,if_pos rfl];dsimp only;have hl:=zbb s m f (by omega) (by omega) s.2.2.1.length 0 af (de m.1,[],()) (by omega) (by rw[zo];omega) (by simp;omega);have hb:=zby m.2.1 s.2.2.1 (de m.1,[],());rw[show((0:Nat):Int)=0 from rfl,GS] at hl;rw[hl,zc];unfold zok;dsimp only at hb⊢;rw[afA s hs.fX,zc,Tz _ _ _ (by rw[zav] at hb;omega),zc];rfl
theorem SJ{a:Spec}:∀{l:List aQ} {prev:List Int} {i:Int},fC a prev l i=none->∀c∈l,bJ a c.2.1=0
 | [],_,_,_,c,hc=>by cases hc
 |x::r,prev,i,h,c,uB=>by
  rw[fC] at h;by_cases hc:iV a prev x=0
  ·rw[zT hc,zC] at h;rcases If.1 uB with rfl|uB
   ·unfold iV at hc;cases h1:decide (c.1<0) with
    |true=>rw[h1] at hc;cases hc
    |false=>
     rw[h1,zD] at hc;cases h2:decide (16<c.1) with
     |true=>rw[h2] at hc;cases hc
     |false=>
      rw[h2,zD] at hc;cases h3:decide (c.1∈prev) with
      |true=>rw[h3] at hc;cases hc
      |false=>rw[h3,zD] at hc;exact hc
   ·exact SJ h c uB
  ·rw[zF hc] at h;cases h
structure vY(s:aW):Prop where
 gW:(ij s.1).1=0
 act:bC s.1 39=true
 fX:∀c∈s.2.2.2.1,bJ (aX s.1 39) c.2.1=0
 zero:(0:Int)∈s.2.2.2.1.map λc=>c.1
theorem Wk{s:aW}(h:(gx s).1=0):vY s:=by
 unfold gx at h;by_cases h1:(ij s.1).1=0
 case neg=>rw[zF h1] at h;cases h
 rw[zT h1,ab,zD] at h;cases h2:bC s.1 39 with
 |false=>rw[h2] at h;cases h
 |true=>
  rw[h2,ab,zD] at h;have ne:∀{l:List Int} {prev:List Int} {i:Int} {e:Int×Int},gK s.1 prev l i=some e->e.1≠0:=by
   intro l
   induction l with
   |nil=>intro _ _ _ h;cases h
   |cons x r ih=>
    intro prev i e h;rw[gK] at h;by_cases hc:ld s.1 prev x=0
    ·rw[zT hc,zC] at h;exact ih h
    ·rw[zF hc,zD] at h;cases h;exact hc
  have nc:∀{l:List aQ} {prev:List Int} {i:Int} {e:Int×Int},fC (aX s.1 39) prev l i=some e->e.1≠0:=by
   intro l
   induction l with
   |nil=>intro _ _ _ h;cases h
   |cons x r ih=>
    intro prev i e h;rw[fC] at h;by_cases hc:iV (aX s.1 39) prev x=0
    ·rw[zT hc,zC] at h;exact ih h
    ·rw[zF hc,zD] at h;cases h;exact hc
  cases h3:gK s.1 [] s.2.2.1 0 with
  |some e=>rw[h3] at h;exact absurd h (ne h3)
  |none=>
   rw[h3] at h;dsimp only at h;cases h4:fC (aX s.1 39) [] s.2.2.2.1 0 with
   |some e=>rw[h4] at h;exact absurd h (nc h4)
   |none=>
    rw[h4] at h;dsimp only at h;by_cases h5:(0:Int)∈s.2.2.2.1.map λc=>c.1
    ·exact⟨h1,h2,SJ h4,h5⟩
    ·rw[zF h5] at h;cases h
theorem amd{s:aW}(h:vY s)(e:Int):bJ (aX s.1 39) (gI s e)=0:=by
 unfold gI;cases h1:eB s.2.2.2.1 e with
 |some c=>exact h.fX c (zaV h1)
 |none=>
  cases h2:eB s.2.2.2.1 0 with
  |some c=>exact h.fX c (zaV h2)
  |none=>obtain⟨c,hc,h0⟩:=zau.1 h.zero;have:=List.find?_eq_none.1 h2 c hc;exact absurd (zT h0) this
theorem T3(l:List aQ):∀(e:List Int) (o:bu) (v:aQ),v∈(fb l e o).2.1->v∈o.2.1\/v∈l
 | [],o,v,h=> .inl h
 |no::r,o,v,h=>by
  rw[fb] at h;rcases T3 l r _ v h with h|h
  ·cases hx:eB l no with
   |none=>rw[hx] at h;exact .inl h
   |some w=>
    rw[hx] at h;rcases(zca o no w.2.1 v).1 h with e|⟨h,_⟩
    ·have hw:=zdW hx;have hw:w.1=no:=by simpa using hw
     right;rw[e,<-hw];exact zaV hx
    ·exact .inl h
  ·exact .inr h
theorem zlj(l:List aQ):∀(e:List Int) (o:bu),kQ o.2.1->kQ (fb l e o).2.1/\(fb l e o).1=o.1
 | [],o,h=>⟨h,rfl⟩
 |no::r,o,h=>by
  rw[fb];cases hx:eB l no with
  |none=>exact zlj l r o h
  |some w=>obtain⟨h1,h2⟩:=zlj l r (dT o no w.2.1) (zms h no w.2.1);exact⟨h1,h2⟩
structure Part(s:zg)(m:bu):Prop where
 head:fU m.1=true->eC m.1=s.2.1
 sC:m.1.size<=1000
 len:m.2.1.length<=200
 jA:∀v∈m.2.1,bC s v.1=true/\bJ (aX s v.1) v.2.1=0/\v.2.1.size<=999
theorem Part.ok{s:zg}{m:bu}(h:Part s m):dP m:=⟨by have:=h.sC;omega,by have:=h.len;omega,λv hv=>by have:=(h.jA v hv).2.2;omega⟩
theorem Vq{s:aW}(hk:vY s)(ho:cZ s)(he:s.2.2.1.length<=300){m:bu}(hm:Part s.1 m)(e:Int)(hr:dY m.1=true):kc s.1 (um s m e)/\l7 (um s m e)/\dY (um s m e).1=false:=by
 obtain⟨r1,r2,r3⟩:=apV hr;obtain⟨b1,b2⟩:=zlj m.2.1 s.2.2.1 (de m.1,[],()) zcK;have As:(um s m e).1=de m.1:=b2;have ok:=(Ci s.1).1 hk.gW;have hc:=amd hk e;have eU:(gI s e).size<=1099511627776:=by
  unfold gI;split
  ·rename_i c h;exact ho.oq c (zaV h)
  ·split
   ·rename_i c h;exact ho.oq c (zaV h)
   ·exact zaX _
 have hf:∀v∈(um s m e).2.1,bC s.1 v.1=true/\bJ (aX s.1 v.1) v.2.1=0/\v.2.1.size<=999:=λv hv=>by
  rcases(zca _ _ _ v).1 hv with rfl|⟨hv,_⟩
  ·obtain⟨v1,v2,v3,_,_⟩:=(NZ _ _ eU).1 hc;have:=Oz v1;exact⟨hk.act,hc,by dsimp only;omega⟩
  ·rcases T3 _ _ _ v hv with hv|hv
   ·cases hv
   ·exact hm.jA v hv
 have aaz:kQ (um s m e).2.1:=zms b1 39 (gI s e);refine⟨⟨hk.gW,by rw[As];exact r1,by rw[As,r2];exact hm.head (Zi hr).1,Fi.2 ⟨λv hv=>⟨(hf v hv).1,(hf v hv).2.1⟩,aaz,λv hv=>by have:=apN ok (hf v hv).1;omega⟩⟩,⟨by rw[As];have:=(oQ.1 r1).1;omega,?_,λv hv=>by have:=(hf v hv).2.2;omega⟩,by rw[As];exact r3⟩;have h1:=zby m.2.1 s.2.2.1 (de m.1,[],());have h2:=zgn (fb m.2.1 s.2.2.1 (de m.1,[],())) 39 (gI s e);unfold um;dsimp only[zav] at h1;omega
theorem TV(s:zg)(b:ByteArray)(hb:b.size<=1099511627776):∀(r:List Int) (a:Nat) (o:List aQ),(∀v∈o,bC s v.1=true/\bJ (aX s v.1) v.2.1=0/\v.2.1.size<=999)->(∀v∈(iX s b r a o).1,bC s v.1=true/\bJ (aX s v.1) v.2.1=0/\v.2.1.size<=999)/\(iX s b r a o).1.length<=o.length+r.length
 | [],a,o,h=>⟨h,zag _⟩
 |no::r,a,o,h=>by
  rw[iX];split
  ·exact⟨h,Nat.le_add_right _ _⟩
  ·rename_i hf;have hf:bC s no=true:=by cases hh:bC s no with
    |true=>rfl
    |false=>exact absurd hh hf
   split
   ·exact⟨h,Nat.le_add_right _ _⟩
   ·rename_i hz;generalize hg:z28 s.1 (aX s no) b (a:Int)=g at hz⊢;obtain⟨t,z,e⟩:=g;dsimp only at hz⊢;have he:e=0:=zfA λhn=>hz hn;subst he;obtain⟨c1,c2,c3,c4,c5,c6⟩:=SI hb hg;have h2:∀v∈o++ [((no,t,()):aQ)],bC s v.1=true/\bJ (aX s v.1) v.2.1=0/\v.2.1.size<=999:=λv hv=>by
     rcases M2.1 hv with hv|hv
     ·exact h v hv
     ·rw[List.mem_singleton.1 hv];exact⟨hf,c2,c5⟩
    obtain⟨i1,i2⟩:=TV s b hb r z.toNat _ h2;rw[th,By] at i2;exact⟨i1,by rw[ls];omega⟩
theorem E2(s:zg):Part s bn:=⟨λh=>(by cases h),zaX _,zaX _,λv hv=>(by cases hv)⟩
theorem Vv(s:zg)(b:ByteArray)(hb:b.size<=1099511627776):Part s (jz s b).1:=by
 unfold jz;split
 ·exact E2 s
 cases ht:ot s b with
 |inl e=>exact E2 s
 |inr q=>
  unfold ot at ht;split at ht
  ·cases ht
  split at ht
  case isFalse=>cases ht
  rename_i hr;injection ht with ht
  subst ht;have h4:=(oQ.1 hr.1).1;show Part s (ww s b (fS s.1 b) _).1;unfold ww;split
  ·exact⟨λ_=>hr.2,by dsimp only;omega,zaX _,λv hv=>by cases hv⟩
  ·obtain⟨p1,p2⟩:=TV s b hb (elems (bL s.1 b (gA s.1)).1 (bL s.1 b (gA s.1)).2.1) (bL s.1 b (gA s.1)).2.2.1.toNat [] (λv hv=>by cases hv);have:=Zn (bL s.1 b (gA s.1)).1 (bL s.1 b (gA s.1)).2.1;rw[zav] at p2;exact⟨λ_=>hr.2,by dsimp only;omega,by dsimp only;omega,p1⟩
def mT(p:aW)(n:Int)(m:bu)(f:bV):Int×ByteArray:=
 if dY m.1=true then(if n<((iu p.1 (um p m f.1)).size:Int) then(3,bs []) else(2,iu p.1 (um p m f.1))) else(3,bs [])
def AQ(p q:aW)(n:Int)(m:bu)(t:bu×bV):Int×ByteArray:=
 if¬t.2.1=0 then mT p n m t.2 else if n<((iu q.1 t.1).size:Int) then mT p n m (5,129,()) else(1,iu q.1 t.1)
def AP(p q:aW)(n:Int)(d:bu×bV):Int×ByteArray:=if¬d.2.1=0 then mT p n d.1 d.2 else AQ p q n d.1 (p8 p.2.1 p.1 q.1 d.1)
def oh(p q:aW)(n:Int)(b:ByteArray):Int×ByteArray:=AP p q n (jz p.1 b)
structure sS(p q:aW)(n:Int):Prop where
 n1:1<=n
 n2:n<=65535
 rp:(gx p).1=0
 rq:(gx q).1=0
 mp:(dF p.2.1 p.1 q.1).1=0
 mq:(dF q.2.1 q.1 p.1).1=0
theorem sS.symm{p q:aW}{n:Int}(h:sS p q n):sS q p n:=⟨h.n1,h.n2,h.rq,h.rp,h.mq,h.mp⟩
theorem cS.symm{p q:aW}(h:cS p q):cS q p:=⟨h.sq,h.sp,h.qm,h.pm,h.G3,h.GZ,h.qe,h.pe,h.qml,h.pml,h.acJ,h.acI⟩
theorem zg7{p q:aW}{n:Int}:(gm p q n).1=0↔sS p q n:=by
 unfold gm;by_cases h1:n<1
 ·rw[zT h1];exact⟨λh=>(by cases h),λh=>by have:=h.n1;omega⟩
 by_cases h2:65535<n
 ·rw[zF h1,zT h2];exact⟨λh=>(by cases h),λh=>by have:=h.n2;omega⟩
 rw[zF h1,zF h2,zD,zD];by_cases h3:(gx p).1=0
 case neg=>rw[zF h3];exact⟨λh=>absurd h h3,λh=>absurd h.rp h3⟩
 rw[zT h3,ab,zD];by_cases h4:(dF p.2.1 p.1 q.1).1=0
 case neg=>rw[zF h4];exact⟨λh=>absurd h h4,λh=>absurd h.mp h4⟩
 rw[zT h4,ab,zD];by_cases h5:(gx q).1=0
 case neg=>rw[zF h5];exact⟨λh=>absurd h h5,λh=>absurd h.rq h5⟩
 rw[zT h5,ab,zD];by_cases h6:(dF q.2.1 q.1 p.1).1=0
 case neg=>rw[zF h6];exact⟨λh=>absurd h h6,λh=>absurd h.mq h6⟩
 rw[zT h6];exact⟨λ_=>⟨by omega,by omega,h3,h5,h4,h6⟩,λ_=>rfl⟩
theorem amm{s:zg}{m:bu}(h:kc s m):2<=(iu s m).size:=by
 have ho:=(Ci s).1 h.gW;have:=(ajj (s:=s) ho.1 (m:=m.1) (y:=bs []) h.right).2;have hz:2<=gA s.1:=by unfold gA;split<;>omega
 unfold iu;rw[xG,xG];omega
theorem XW{s:zg}{m:bu}(h:kc s m):sK s m=(iu s m,zu):=by unfold sK;rw[if_pos (Zs.2 h)]
theorem UU{p q:aW}(h:cS p q){m:bu}(hm:dP m)(ht:(p8 p.2.1 p.1 q.1 m).2.1=0):kc q.1 (p8 p.2.1 p.1 q.1 m).1/\dP (p8 p.2.1 p.1 q.1 m).1:=by
 rcases aep p.2.1 p.1 q.1 m with⟨f,hf,e⟩|⟨ys,hd,e⟩
 ·rw[e] at ht;exact absurd ht hf
 ·rw[e];exact⟨hd.out h.pm hm,hd.ok h.pm hm⟩
section
variable {p q:aW} {n:Int} (h:cS p q) (h0:sS p q n)
include h h0
theorem z194{m:bu}(hm:Part p.1 m)(f:bV)(cl:List aW):lM m f p (cl,n,())=some (mT p n m f):=by
 unfold lM zqq mT;rw[aju p m f h.sp h.pe hm.ok,zc];unfold OZ;cases hr:dY m.1 with
 |false=>rfl
 |true=>
  obtain⟨b1,b2,_⟩:=Vq (Wk h0.rp) h.sp h.pe hm f.1 hr;have hp:=amm b1;rw[if_pos rfl,if_pos rfl];dsimp only;rw[ab,zD,Tv p.1 _ h.sp.gW b2.ok,zc,XW b1];dsimp only;rw[zF (λe=>by rw[e] at hp;exact absurd hp (by decide)),zD];by_cases hn:n<((iu p.1 (um p m f.1)).size:Int)
  ·rw[zT hn,if_pos hn];rfl
  ·rw[zF hn,if_neg hn];rfl
theorem zkw{m:bu}(hm:Part p.1 m)(f:bV)(c:xI)(link:Int)(hl:0<=link/\link<2)(hc:an c.1 link.toNat mz=p)(hn:c.2.1=n):lL c link m f=some (mT p n m f):=by
 unfold lL zp2 mT;have hc':an c.1 link.toNat ((((0:Int),(0:Int),([]:List Spec),()),(([]:List bG),([]:List aS),()),([]:List Int),([]:List aQ),()):aW)=p:=hc;rw[zl hl.1 hl.2];simp only[hc',hn];rw[aeu p m f h.sp h.pe hm.ok,zc];unfold OZ;cases hr:dY m.1 with
 |false=>rfl
 |true=>
  obtain⟨b1,b2,_⟩:=Vq (Wk h0.rp) h.sp h.pe hm f.1 hr;rw[if_pos rfl,if_pos rfl];dsimp only;rw[ab,zD,U8 p.1 _ h.sp.gW b1 b2,zc];by_cases hn:n<((iu p.1 (um p m f.1)).size:Int)
  ·rw[zT hn,if_pos hn];rfl
  ·rw[zF hn,if_neg hn];rfl
theorem YR(b:ByteArray)(hb:b.size<=1099511627776)(cl:List aW):((te p.1 b).bind λr2=>(bif(!(decide (r2.2.1=(0:Int)))) then((lM r2.1 r2.2 p (cl,n,())).bind λr3=>some (r3.1,r3.2)) else((tg p.2.1 p.1 q.1 r2.1).bind λr4=>(bif(!(decide (r4.2.1=(0:Int)))) then((lM r2.1 r4.2 p (cl,n,())).bind λr5=>some (r5.1,r5.2)) else((pu q.1 r4.1).bind λr6=>(bif(decide (n<((r6.1).size:Int))) then((lM r2.1 ((5:Int),(129:Int),()) p (cl,n,())).bind λr7=>some (r7.1,r7.2)) else some ((1:Int),r6.1)))))))=some (oh p q n b):=by
 have jQ:=Vv p.1 b hb;have eM:=jQ.ok;rw[afE p.1 b h.sp.gW hb,zc];unfold oh AP;by_cases hd:(jz p.1 b).2.1=0
 case neg=>rw[zF hd,GW,zC,if_pos hd,z194 h h0 jQ,zc]
 rw[zT hd,ab,zD,if_neg (λe=>e hd),ado p.2.1 p.1 q.1 _ h.pm (by have:=h.pml;omega) eM (by have:=jQ.len;omega) h.sp.gW h.sq.gW,zc];unfold AQ;by_cases ht:(p8 p.2.1 p.1 q.1 (jz p.1 b).1).2.1=0
 case neg=>rw[zF ht,GW,zC,if_pos ht,z194 h h0 jQ,zc]
 obtain⟨t1,t2⟩:=UU h eM ht;rw[zT ht,ab,zD,if_neg (λe=>e ht),Tv q.1 _ h.sq.gW t2,zc,XW t1];dsimp only;by_cases hn:n<((iu q.1 (p8 p.2.1 p.1 q.1 (jz p.1 b).1).1).size:Int)
 ·rw[zT hn,zC,if_pos hn,z194 h h0 jQ,zc]
 ·rw[zF hn,zD,if_neg hn]
theorem E8(b:ByteArray)(hb:b.size<=1099511627776)(c:xI)(link:Int)(hl:0<=link/\link<2)(hc:an c.1 link.toNat mz=p)(hn:c.2.1=n):((sU p.1 b).bind λr1=>(bif(!(decide (r1.2.1=(0:Int)))) then((lL c link r1.1 r1.2).bind λr2=>some (r2.1,r2.2)) else((sY p.2.1 p.1 q.1 r1.1).bind λr3=>(bif(!(decide (r3.2.1=(0:Int)))) then((lL c link r1.1 r3.2).bind λr4=>some (r4.1,r4.2)) else((oZ q.1 r3.1).bind λr5=>(bif(decide (n<((r5).size:Int))) then((lL c link r1.1 ((5:Int),(129:Int),())).bind λr6=>some (r6.1,r6.2)) else some ((1:Int),r5)))))))=some (oh p q n b):=by
 have jQ:=Vv p.1 b hb;have eM:=jQ.ok;rw[adN p.1 b h.sp.gW hb,zc];unfold oh AP;by_cases hd:(jz p.1 b).2.1=0
 case neg=>rw[zF hd,GW,zC,if_pos hd,zkw h h0 jQ _ c link hl hc hn,zc]
 rw[zT hd,ab,zD,if_neg (λe=>e hd),acQ p.2.1 p.1 q.1 _ h.pm h.pml eM jQ.len h.sp.gW h.sq.gW,zc,<-zgm];unfold AQ;by_cases ht:(p8 p.2.1 p.1 q.1 (jz p.1 b).1).2.1=0
 case neg=>rw[zF ht,GW,zC,if_pos ht,zkw h h0 jQ _ c link hl hc hn,zc]
 obtain⟨t1,t2⟩:=UU h eM ht;rw[zT ht,ab,zD,if_neg (λe=>e ht),U8 q.1 _ h.sq.gW t1 (S9 t2 t1),zc];by_cases Rx:n<((iu q.1 (p8 p.2.1 p.1 q.1 (jz p.1 b).1).1).size:Int)
 ·rw[zT Rx,zC,if_pos Rx,zkw h h0 jQ _ c link hl hc hn,zc]
 ·rw[zF Rx,zD,if_neg Rx]
end
def iE(p q:aW)(n link:Int)(b:ByteArray):Int×ByteArray:=
 if¬(gm p q n).1=0 then(0,bs []) else if link=0 then oh p q n b else if link=1 then oh q p n b else(0,bs [])
theorem aeE(p q:aW)(n link:Int)(b:ByteArray)(h:cS p q)(hb:b.size<=1099511627776):vG ([p,q],n,()) link b=some (iE p q n link b):=by
 unfold vG zqp iE;rw[zgr p q n h,zc];by_cases hc:(gm p q n).1=0
 case neg=>rw[zF hc,if_pos hc];rfl
 have h0:=zg7.1 hc;rw[zT hc,ab,zD,if_neg (λe=>e hc)];by_cases l0:link=0
 ·subst l0;rw[if_pos rfl,zF (by decide),zD,zF (by decide),zD];simp only[oC,oE,ya,Ey,Ez];exact YR h h0 b hb [p,q]
 ·rw[if_neg l0];by_cases l1:link=1
  ·subst l1;rw[if_pos rfl,zF (by decide),zD,zF (by decide),zD];simp only[oC,oE,yb,Ey,Ez];exact YR h.symm h0.symm b hb [p,q]
  ·rw[if_neg l1];by_cases l2:link<0
   ·rw[zT l2];rfl
   ·rw[zF l2,zD,zT (by omega)];rfl
theorem adb(p q:aW)(n link:Int)(b:ByteArray)(h:cS p q)(hc:(gm p q n).1=0)(hl:link=0\/link=1)(hb:b.size<=1099511627776):vm ([p,q],n,()) link b=some (iE p q n link b):=by
 have h0:=zg7.1 hc;unfold vm zp0 iE;rw[if_neg (λe=>e hc)];rcases hl with rfl|rfl
 ·rw[if_pos rfl];simp only[oC,oE,ya,Ey,Ez];exact E8 h h0 b hb ([p,q],n,()) 0 (by decide) rfl rfl
 ·rw[if_neg (by decide),if_pos rfl];simp only[oC,oE,yb,Ey,Ez];exact E8 h.symm h0.symm b hb ([p,q],n,()) 1 (by decide) rfl rfl
theorem Sz(p q:aW)(n:Int)(h:cS p q):mL ([p,q],n,())=some (decide ((gm p q n).1=0)):=by unfold mL zp1;rw[aez p q n h,zc]
theorem api{c:xI}(hc:Wf zsw c):∃p q n,c=([p,q],n,())/\∃g,kd c=some g/\(g=false->cS p q):=by obtain⟨p,q,e⟩:=aji hc.1.1;obtain⟨cl,n,u⟩:=c;simp only[Prod.mk.injEq] at e;obtain⟨rfl,_⟩:=e;obtain⟨g,hg,eM⟩:=ae7 (p:=p) (q:=q) hc;exact⟨p,q,n,rfl,g,hg,eM⟩
end bz

namespace bz
open Go.IntKind renaming wrap->zW,i64->zI,u8->zU
open Go Go.Ref
theorem XY(m:Int):Pr m=some (if m<1\/65535<m then .inl 5 else .inr (0,(m,false,[],()))):=by
 unfold Pr zz4;by_cases h1:m<1
 ·simp [h1]
 ·by_cases h2:65535<m<;>simp [h1,h2]
def aD(m:Int)(l:List Int):Bool×List Int×List ByteArray:=l.foldl (aM m) (false,[],[])
theorem ams(m:Int)(l:List Int):∀(d:Bool) (b:List Int) (o:List ByteArray),l.foldl (aM m) (d,b,o)=((l.foldl (aM m) (d,b,[])).1,(l.foldl (aM m) (d,b,[])).2.1,o++(l.foldl (aM m) (d,b,[])).2.2):=by
 induction l with
 |nil=>intro d b o;simp
 |cons c r ih=>
  intro d b o;rw[za3,za3];have h:aM m (d,b,o) c=((aM m (d,b,[]) c).1,(aM m (d,b,[]) c).2.1,o++(aM m (d,b,[]) c).2.2):=by
   unfold aM;simp only;split
   ·simp
   ·split
    ·simp
    ·split<;>simp
  rw[h,ih];generalize aM m (d,b,[]) c=st;obtain⟨d',b',o'⟩:=st;rw[ih d' b' o'];simp
theorem ail(m:Int)(n:Nat)(r:List Int):∀(w:List Int) (o:List ByteArray),2<=w.length->gi w=n->w.length<2+n->
 r.foldl (aM m) (false,w,o)=if r.length<2+n-w.length then(false,w++r,o) else(r.drop (2+n-w.length)).foldl (aM m) (false,[],o++ [strOf ((w++r.take (2+n-w.length)).drop 2)]):=by
 induction r with
 |nil=>intro w o h1 h2 h3;simp;omega
 |cons c r ih=>
  intro w o h1 h2 h3;rw[za3];have dd:gi (w++ [c])=n:=by
   rw[<-h2];unfold gi;rw[if_neg (by simp;omega),if_neg (by omega)];have e:∀i,i<w.length->(w++ [c]).getD i 0=w.getD i 0:=λi hi=>by rw[be,List.getElem?_append_left hi,be]
   rw[e 0 (by omega),e 1 (by omega)]
  have hlen:(w++ [c]).length=w.length+1:=by simp
  have hf:aM m (false,w,o) c=if w.length+1=2+n then(false,[],o++ [strOf ((w++ [c]).drop 2)]) else(false,w++ [c],o):=by
   unfold aM;simp only[dd,hlen];rw[if_neg (by simp),if_neg (by omega)];by_cases e:w.length+1=2+n
   ·rw[if_pos e,if_pos ⟨by omega,by omega⟩]
   ·rw[if_neg e,if_neg (by omega)]
  rw[hf];by_cases e:w.length+1=2+n
  ·rw[if_pos e,if_neg (by simp;omega)];have:2+n-w.length=1:=by omega
   rw[this];simp
  ·rw[if_neg e,ih (w++ [c]) o (by simp;omega) dd (by simp;omega),hlen];have e2:2+n-w.length=(2+n-(w.length+1))+1:=by omega
   rw[e2];by_cases e3:r.length<2+n-(w.length+1)
   ·rw[if_pos e3,if_pos (by simp;omega)];simp
   ·rw[if_neg e3,if_neg (by simp;omega)];simp
theorem amt(m:Int):∀(n:Nat) (l:List Int) (pos:Int) (o:List ByteArray),l.length<=n->0<=pos->(∀x∈l,zn x)->
 l.foldl (aM m) (false,[],o)=(decide (0<=(fx m pos l).2.2.2),(fx m pos l).2.1,o++(fx m pos l).1):=by
 intro n
 induction n using Nat.strongRecOn with
 |_ n ih=>
 intro l pos o hn hp hb;rw[fx];by_cases c0:l.length<2
 ·rw[dif_pos c0]
  match l,c0 with
  | [],_=>simp
  | [x],_=>simp [aM,gi]
 rw[dif_neg c0]
 match l,c0 with
 | [],c0=>exact absurd (by simp) c0
 | [x],c0=>exact absurd (by simp) c0
 |x::y::r,c0=>
  have hz:=zmm hb;have EQ:gi [x,y]=gi (x::y::r):=by unfold gi;rw[if_neg (by simp),if_neg (by simp)];rfl
  have h1:aM m (false,[],o) x=(false,[x],o):=by simp [aM,gi]
  rw[za3,za3,h1];have h2:aM m (false,[x],o) y=if gi (x::y::r)=0\/m<gi (x::y::r) then(true,[],o) else(false,[x,y],o):=by
   unfold aM;have e1:([x]:List Int)++ [y]=[x,y]:=rfl;simp only[e1,EQ];rw[if_neg (by simp)];by_cases c1:gi (x::y::r)=0\/m<gi (x::y::r)
   ·rw[if_pos ⟨rfl,c1⟩,if_pos c1]
   ·rw[if_neg (λh=>c1 h.2),if_neg c1,if_neg];intro h;have:(([x,y]:List Int).length:Int)=2:=rfl;omega
  rw[h2];by_cases c1:gi (x::y::r)=0\/m<gi (x::y::r)
  ·rw[if_pos c1,if_pos c1,L2];have:(0:Int)<=pos+2:=by omega
   simp [this]
  ·rw[if_neg c1,if_neg c1];generalize hzz:gi (x::y::r)=z at*;have NB:0<z:=by omega
   rw[ail m z.toNat r [x,y] o (by simp) (by rw[EQ];omega) (by simp;omega)];have e0:2+z.toNat-([x,y]:List Int).length=z.toNat:=by simp
   rw[e0];by_cases c3:((x::y::r).length:Int)-2<z
   ·rw[if_pos c3,if_pos (by simp at c3;omega)];simp
   ·rw[if_neg c3,if_neg (by simp at c3;omega)];have hd:(x::y::r).drop (2+z.toNat)=r.drop z.toNat:=by rw[zeT];rfl
    have ht:((x::y::r).drop 2).take z.toNat=r.take z.toNat:=rfl;have ht2:([x,y]++r.take z.toNat).drop 2=r.take z.toNat:=rfl;rw[hd,ht,ht2];rw[ih (n-2) (by simp at hn;omega) (r.drop z.toNat) (pos+2+z) _ (by simp at hn⊢;omega) (by omega) (λx hx=>hb x (by simp;exact .inr (.inr (List.mem_of_mem_drop hx))))];simp
theorem Wi(m:Int)(l:List Int)(hb:∀x∈l,zn x):aD m l=(decide (0<=(fx m 0 l).2.2.2),(fx m 0 l).2.1,(fx m 0 l).1):=by unfold aD;rw[amt m l.length l 0 [] (zag _) (by omega) hb];simp
theorem z8m(m:Int)(a b:List Int):aD m (a++b)=((b.foldl (aM m) ((aD m a).1,(aD m a).2.1,[])).1,(b.foldl (aM m) ((aD m a).1,(aD m a).2.1,[])).2.1,(aD m a).2.2++(b.foldl (aM m) ((aD m a).1,(aD m a).2.1,[])).2.2):=by unfold aD;rw[zb5];generalize a.foldl (aM m) (false,[],[])=st;obtain⟨d,c,o⟩:=st;rw[ams]
def dW(m:Int)(l:List Int):Fr:=(m,(aD m l).1,(aD m l).2.1,())
theorem aij(m:Int)(a b:List Int):feed (dW m a) b=((b.foldl (aM m) ((aD m a).1,(aD m a).2.1,[])).2.2,decide ((aD m (a++b)).1=true/\(aD m a).1=false),dW m (a++b)):=by unfold feed dW;rw[z8m]
theorem ae4(m:Int)(st:Bool×List Int×List ByteArray)(c:Int)(hc:zn c)(h:(∀x∈st.2.1,zn x)):∀x∈(aM m st c).2.1,zn x:=by
 unfold aM;split
 ·exact h
 ·split
  ·simp
  ·split
   ·simp
   ·intro x hx;rcases M2.1 hx with hx|hx
    ·exact h x hx
    ·simp at hx;subst hx;exact hc
theorem aik(m:Int)(l:List Int):∀(st:Bool×List Int×List ByteArray),(∀x∈l,zn x)->(∀x∈st.2.1,zn x)->∀x∈(l.foldl (aM m) st).2.1,zn x:=by
 induction l with
 |nil=>intro st _ h;exact h
 |cons c r ih=>intro st hl h;exact ih _ (λx hx=>hl x (by simp [hx])) (ae4 m st c (hl c (by simp)) h)
theorem aiY(m:Int)(l:List Int)(h:∀x∈l,zn x):∀x∈(aD m l).2.1,zn x:=aik m l _ h (by simp)
theorem Zp(m:Int)(l:List Int):∀(st:Bool×List Int×List ByteArray),(l.foldl (aM m) st).2.1.length<=st.2.1.length+l.length/\(l.foldl (aM m) st).2.2.length<=st.2.2.length+l.length:=by
 induction l with
 |nil=>intro st;simp
 |cons c r ih=>
  intro st;have h:(aM m st c).2.1.length<=st.2.1.length+1/\(aM m st c).2.2.length<=st.2.2.length+1:=by
   unfold aM;split
   ·omega
   ·split
    ·simp
    ·split<;>simp
  have:=ih (aM m st c);simp only[za3,ls];omega
theorem zwi(m:Int)(l:List Int):(aD m l).2.1.length<=l.length/\(aD m l).2.2.length<=l.length:=by have:=Zp m l (false,[],[]);simpa [aD] using this
theorem adz(m:Int)(a:List Int)(s:ByteArray)(ha:∀x∈a,zn x)(h:a.length+s.size<=4398046511104):FV (dW m a) s=some (((bl s).foldl (aM m) ((aD m a).1,(aD m a).2.1,[])).2.2,decide ((aD m (a++bl s)).1=true/\(aD m a).1=false),dW m (a++bl s)):=by rw[apC _ _ (aiY m a ha) (by have:=(zwi m a).1;simp only[dW];omega),aij]
theorem amu(p:ByteArray)(h:p.size<=70000):FW p=some (if p.size<1\/65535<p.size then(bs [],5) else(strOf [(p.size:Int)/256,(p.size:Int)% 256]++p,0)):=by
 unfold FW zz5;by_cases h1:p.size<1
 ·rw[zT (by omega),if_pos (.inl h1)];rfl
 rw[zF (by omega),zD];by_cases h2:65535<p.size
 ·rw[zT (by omega),if_pos (.inr h2)];rfl
 rw[zF (by omega),if_neg (by omega),lV,zT (by simp;omega)];have e1:zW zU (Int.fdiv (p.size:Int) (2^min ((8:Int)).toNat 64))=(p.size:Int)/256:=by
  rw[Int.fdiv_eq_ediv_of_nonneg _ (by decide),zmq];have:((2:Int)^min ((8:Int)).toNat 64)=256:=by decide
  rw[this];omega
 have e2:zW zU (p.size:Int)=(p.size:Int)% 256:=zmq _;rw[e1,e2];rfl
theorem adF(p:ByteArray)(h:p.size<=70000):pf p=some (if p.size<1\/65535<p.size then bs [] else strOf [(p.size:Int)/256,(p.size:Int)% 256]++p):=by
 unfold pf zp7;by_cases h1:p.size<1
 ·rw[zT (by omega),if_pos (.inl h1)];rfl
 rw[zF (by omega),zD];by_cases h2:65535<p.size
 ·rw[zT (by omega),if_pos (.inr h2)];rfl
 rw[zF (by omega),if_neg (by omega),lV,zT (by simp;omega)];have e1:zW zU (zW zI (Int.tdiv (p.size:Int) (256:Int)))=(p.size:Int)/256:=by rw[zdr (by omega),zi (by omega) (by omega),zmq];omega
 have e2:zW zU (Int.tmod (p.size:Int) (256:Int))=(p.size:Int)% 256:=by rw[zdq (by omega),zmq];omega
 rw[e1,e2];rfl
section
variable {m:Map} {a b:zg} {x:bu} {ys:List aQ}
end
end bz

namespace bz
open Go.IntKind renaming wrap->zW,i64->zI,u8->zU
open Go Go.Ref
section
variable {p q:aW} {n:Int} (h:cS p q) (h0:sS p q n)
include h
include h0
end
end bz

namespace bz
open Go.IntKind renaming wrap->zW,i64->zI,u8->zU
open Go Go.Ref
abbrev cT:=Int×Int×ByteArray×Int×Unit
abbrev Gw:=xI×(Option Fr×Option Fr)×Int
def GY(i:Int)(x:aS)(s:List aS)(K:List aS->Option (List aS×aW×aW)):Option (List aS×aW×aW):=
 bif(decide (x.2.2.2.2.1.length*32<=140737488355328)) then(bif(decide ((s.length+(aa ([(x.1,x.2.1,x.2.2.1,x.2.2.2.1,x.2.2.2.2.1,())]:List aS)))*64<=140737488355328)) then K (s++ [(x.1,x.2.1,x.2.2.1,x.2.2.2.1,x.2.2.2.2.1,())]) else none) else none
theorem XF(b1 b2:aW):∀(l:List aS) (i:Int) (s:List aS),(∀r∈l,eH r)->s.length+l.length<=1000000->aV GY (λs=>some (s,b1,b2)) l i s=some (s++l,b1,b2)
 | [],i,s,_,_=>by rw[zay];rfl
 |x::l,i,s,h,hl=>by have hp:=(h x (by simp)).fj.len;simp only[ls] at hl;rw[aV,GY,zT (by omega),zC,zT (by simp only[ls,zav];omega),zC,XF b1 b2 l (i+1) _ (λr hr=>h r (by simp [hr])) (by simp;omega)];rw[MM];rfl
theorem YP(s:aW)(h:cZ s)(hm:dq s.2.1)(h2:s.1.2.2.1.length<=200):Pv s=some s:=by
 have he:=h.pG;have hc:=h.fX;have hl:=hm.len;have ht:=hm.m5.len;unfold Pv zzg;rw[zT (by omega),zC,zT (by omega),zC,zT (by omega),zC,zT (by omega),zC];have:=cn ((0:Int),(0:Int),(0:Int),bs [],([]:List bG),()) s.2.1.2.1 (by rw[zj];omega) GY (λl=>some (l,(s.1,s.2.1,s.2.2.1,s.2.2.2.1,()),mz))
  (λk i l=>zk6 k l s.2.1.2.1 (s.2.1.2.1.length:Int) i (s.1,s.2.1,s.2.2.1,s.2.2.2.1,()) mz) (λk i l=>rfl) []
 dsimp only;refine(congrArg (λo=>zee o _) (this.trans (XF _ _ s.2.1.2.1 0 [] hm.rules (by simp;omega)))).trans ?_;rw[zc,zah];unfold zzh;rw[zT (by show s.2.2.1.length*8<=_;omega),zC,zT (by show s.2.2.2.1.length*24<=_;omega),zC]
def gw(c:xI)(n:Int)(x y:ByteArray)(d:Int):Gw:=(c,(some (dW n (bl x)),some (dW n (bl y))),d)
theorem ajE(p q:aW)(n:Int)(h:cS p q):C7 ([p,q],n,())=some (if(gm p q n).1=0 then .inr (0,gw ([p,q],n,()) n (bs []) (bs []) 0) else .inl 1):=by
 obtain⟨k,hk⟩:=O2;unfold C7 zzd;rw[zgr p q n h,zc];by_cases h0:(gm p q n).1=0
 case neg=>rw[zF h0,if_neg h0];rfl
 rw[zT h0,if_pos h0,ab,zD,hk];have hc:=zg7.1 h0;have hn:¬(n<1\/65535<n):=λe=>by have:=hc.n1;have:=hc.n2;omega
 unfold MU OE;simp only[oC,oE,ya,yb,Fg,Fh,gp,gq,Ey,Ez,sH,sI];rw[zT (by decide:(0:Int)<2),zC,YP p h.sp h.pm h.GZ,zc,XY,zc,if_neg hn,zaA];dsimp only;unfold MU OE;simp only[oC,oE,ya,yb,Fg,Fh,gp,gq,Ey,Ez,sH,sI];rw[zT (by decide:(1:Int)<2),zC,YP q h.sq h.qm h.G3,zc,XY,zc,if_neg hn,zaA];dsimp only;unfold MU OE;rw[zF (by decide:¬(2:Int)<2),zD];rfl
abbrev Ev:=Int×ByteArray×Unit
abbrev Item:=Int×Option ByteArray
def xj(b:ByteArray):ByteArray:=if b.size<1\/65535<b.size then bs [] else strOf [(b.size:Int)/256,(b.size:Int)% 256]++b
theorem aim(b:ByteArray)(h:b.size<=70000):∃e,FW b=some (xj b,e):=by
 rw[amu b h];unfold xj;by_cases hb:b.size<1\/65535<b.size
 ·rw[if_pos hb,if_pos hb];exact⟨_,rfl⟩
 ·rw[if_neg hb,if_neg hb];exact⟨_,rfl⟩
theorem aiU(b:ByteArray)(h:b.size<=70000):pf b=some (xj b):=adF b h
theorem zkv{n:Int}(hn:n<=65535)(p:aW)(m:bu)(f:bV):(mT p n m f).2.size<=65535:=by
 unfold mT;split
 ·split
  ·exact zaX _
  ·rename_i h;show(iu p.1 (um p m f.1)).size<=65535;omega
 ·exact zaX _
theorem UD{n:Int}(hn:n<=65535)(p q:aW)(b:ByteArray):(oh p q n b).2.size<=65535:=by
 unfold oh AP;split
 ·exact zkv hn _ _ _
 ·unfold AQ;split
  ·exact zkv hn _ _ _
  ·split
   ·exact zkv hn _ _ _
   ·rename_i h;show(iu q.1 _).size<=65535;omega
theorem UE{p q:aW}{n:Int}(link:Int)(b:ByteArray):(iE p q n link b).2.size<=65535:=by
 unfold iE;split
 ·exact zaX _
 ·rename_i h;have h0:=zg7.1 (Decidable.not_not.1 h);split
  ·exact UD h0.n2 _ _ _
  ·split
   ·exact UD h0.n2 _ _ _
   ·exact zaX _
def pT(p q:aW)(n link d:Int)(b:ByteArray):cT×Int:=
 if(iE p q n link b).1=3 then((link,3,bs [],zW zI (d+1),()),zW zI (d+1))
 else if(iE p q n link b).1=1 then((zW zI (1-link),1,xj (iE p q n link b).2,d,()),d)
 else((link,(iE p q n link b).1,xj (iE p q n link b).2,d,()),d)
theorem afg(p q:aW)(n link d:Int)(b:ByteArray)(m:Option Fr×Option Fr)(h:cS p q)(hb:b.size<=1099511627776):
 Ng (([p,q],n,()),m,d) link b=some ((pT p q n link d b).1,(([p,q],n,()),m,(pT p q n link d b).2)):=by
 unfold Ng zzb pT;rw[aeE p q n link b h hb,zc];have hs:=UE (p:=p) (q:=q) (n:=n) link b;obtain⟨e,hp⟩:=aim _ (show(iE p q n link b).2.size<=70000 by omega);generalize iE p q n link b=r at hs hp⊢;by_cases h3:r.1=3
 ·rw[zT h3,if_pos h3,zC,h3]
 rw[zF h3,if_neg h3,zD];by_cases h1:r.1=1
 ·rw[zT h1,if_pos h1,zC,hp,zc,h1]
 ·rw[zF h1,if_neg h1,zD,hp,zc]
def oj(p q:aW)(n d:Int)(it:Item):cT×Int:=match it.2 with
 |some b=>pT p q n it.1 d b
 |none=>((it.1,4,bs [],d,()),d)
def bh(p q:aW)(n:Int):Int->List Item->List cT×Int
 |d,[]=>([],d)
 |d,it::r=>((oj p q n d it).1::(bh p q n (oj p q n d it).2 r).1,(bh p q n (oj p q n d it).2 r).2)
theorem YY(p q:aW)(n:Int):∀(a b:List Item) (d:Int),bh p q n d (a++b)=((bh p q n d a).1++(bh p q n (bh p q n d a).2 b).1,(bh p q n (bh p q n d a).2 b).2)
 | [],b,d=>rfl
 |it::a,b,d=>by rw[zbM,bh,bh,YY p q n a b];rfl
theorem yc(p q:aW)(n:Int):∀(a:List Item) (d:Int),(bh p q n d a).1.length=a.length
 | [],d=>rfl
 |it::a,d=>by rw[bh,ls,ls,yc p q n a]
def zm1(n:Int)(a:List Int):List (Option ByteArray):=(aD n a).2.2.map some++if(aD n a).1=true then [none] else []
def od(n:Int)(a b:List Int):List (Option ByteArray):=(zm1 n (a++b)).drop (zm1 n a).length
theorem ac6(n:Int)(a b:List Int):zm1 n (a++b)=zm1 n a++((b.foldl (aM n) ((aD n a).1,(aD n a).2.1,[])).2.2.map some++if decide ((aD n (a++b)).1=true/\(aD n a).1=false)=true then [none] else []):=by
 unfold zm1;have tJ:=z8m n a b;cases hd:(aD n a).1 with
 |true=>rw[hd,L2] at tJ;rw[L2,tJ];simp
 |false=>
  rw[hd] at tJ;have e1:(aD n (a++b)).2.2=(aD n a).2.2++(b.foldl (aM n) (false,(aD n a).2.1,[])).2.2:=by rw[tJ]
  rw[e1];simp
theorem Kd(n:Int)(a b:List Int):od n a b=(b.foldl (aM n) ((aD n a).1,(aD n a).2.1,[])).2.2.map some++if decide ((aD n (a++b)).1=true/\(aD n a).1=false)=true then [none] else []:=by unfold od;rw[ac6,List.drop_left]
theorem V1(n:Int)(a b:List Int):(od n a b).length<=b.length+1:=by
 rw[Kd];have:=(Zp n b ((aD n a).1,(aD n a).2.1,[])).2;rw[th,zaR];split
 ·simp at this⊢;omega
 ·simp at this⊢;omega
def wD(k:Int)(i:Int)(x:ByteArray)(s:List cT×Gw)(K:List cT×Gw->Option (List cT×Bool×Gw×Ev)):Option (List cT×Bool×Gw×Ev):=
 (Ng s.2 k x).bind λr4=>(bif(decide ((s.1.length+(aa ([r4.1]:List cT)))*40<=140737488355328)) then K (s.1++([r4.1]:List cT),r4.2) else none)
theorem VA(p q:aW)(n k:Int)(h:cS p q)(m:Option Fr×Option Fr)(b:Bool)(e:Ev):∀(l:List ByteArray) (i:Int) (s:List cT) (d:Int),(∀x∈l,x.size<=1099511627776)->s.length+l.length<=3000000000000->
 aV (wD k) (λs=>some (s.1,b,s.2,e)) l i (s,(([p,q],n,()),m,d))=some (s++(bh p q n d (l.map λx=>(k,some x))).1,b,(([p,q],n,()),m,(bh p q n d (l.map λx=>(k,some x))).2),e)
 | [],i,s,d,_,_=>by rw[zbK,bh,zay];rfl
 |x::l,i,s,d,hb,hl=>by
  simp only[ls] at hl;rw[aV,wD,afg p q n k d x m h (hb x (by simp)),zc,zT (by simp only[ls,zav];omega),zC,
   VA p q n k h m b e l (i+1) _ _ (λy hy=>hb y (by simp [hy])) (by simp;omega),zaq,bh,MM]
  rfl
theorem EY(k:Int):FZ k=some (decide (k=0\/k=1)):=by
 unfold FZ zze;by_cases h:k=0
 ·simp [h]
 ·simp [h]
def dn(n:Int)(xy:ByteArray×ByteArray)(e:Ev):List Item×(ByteArray×ByteArray):=
 if e.1=0 then((od n (bl xy.1) (bl e.2.1)).map λi=>((0:Int),i),(xy.1++e.2.1,xy.2))
 else if e.1=1 then((od n (bl xy.2) (bl e.2.1)).map λi=>((1:Int),i),(xy.1,xy.2++e.2.1))
 else([],xy)
theorem Tj(m:Int)(l:List Int):∀(st:Bool×List Int×List ByteArray),∀x∈(l.foldl (aM m) st).2.2,x∈st.2.2\/x.size<=st.2.1.length+l.length:=by
 induction l with
 |nil=>intro st x hx;exact .inl hx
 |cons c r ih=>
  intro st x hx;have h:(aM m st c).2.1.length<=st.2.1.length+1/\∀y∈(aM m st c).2.2,y∈st.2.2\/y.size<=st.2.1.length+1:=by
   unfold aM;split
   ·exact⟨by omega,λy hy=> .inl hy⟩
   ·split
    ·exact⟨by simp,λy hy=> .inl hy⟩
    ·split
     ·refine⟨by simp,λy hy=> ?_⟩;rcases M2.1 hy with hy|hy
      ·exact .inl hy
      ·right;have:y=strOf ((st.2.1++ [c]).drop 2):=by simpa using hy
       rw[this,lV,zaD,th,ls,zav];omega
     ·exact⟨by simp,λy hy=> .inl hy⟩
  rcases ih (aM m st c) x hx with h1|h1
  ·rcases h.2 x h1 with h2|h2
   ·exact .inl h2
   ·right;simp;omega
  ·right;have:=h.1;simp;omega
theorem Ua(p q:aW)(n k:Int)(h:cS p q)(a c:ByteArray)(m:Option Fr×Option Fr)(d:Int)(hs:a.size+c.size<=1000000000000)(F:List cT×Bool×Gw×Ev->Option (List cT×Gw)):
 ((FV (dW n (bl a)) c).bind λr3=>(OD af ([]:List cT) r3.2.1 r3.1 ((aa r3.1):Int) (0:Int) (([p,q],n,()),((gy k.toNat (some r3.2.2) m),d)) (k,c,())).bind F)=
   F ((bh p q n d (((bl c).foldl (aM n) ((aD n (bl a)).1,(aD n (bl a)).2.1,[])).2.2.map λx=>(k,some x))).1,decide ((aD n (bl a++bl c)).1=true/\(aD n (bl a)).1=false),(([p,q],n,()),gy k.toNat (some (dW n (bl (a++c)))) m,(bh p q n d (((bl c).foldl (aM n) ((aD n (bl a)).1,(aD n (bl a)).2.1,[])).2.2.map λx=>(k,some x))).2),(k,c,())):=by
 have hla:=zf a;have hlc:=zf c;rw[adz n (bl a) c (λx hx=>ii hx) (by omega),zc];dsimp only;generalize hl:((bl c).foldl (aM n) ((aD n (bl a)).1,(aD n (bl a)).2.1,[])).2.2=l;have hlen:l.length<=c.size:=by have:=(Zp n (bl c) ((aD n (bl a)).1,(aD n (bl a)).2.1,[])).2;rw[hl] at this;simp only[zav] at this;omega
 have dd:∀x∈l,x.size<=1099511627776:=λx hx=>by
  rw[<-hl] at hx;have h1:=(zwi n (bl a)).1;rcases Tj n (bl c) _ x hx with h2|h2
  ·cases h2
  ·simp only at h2;omega
 have:=cn (bs []) l (by rw[zj];omega) (wD k) (λs=>some (s.1,decide ((aD n (bl a++bl c)).1=true/\(aD n (bl a)).1=false),s.2,(k,c,())))
  (λj i s=>OD j s.1 (decide ((aD n (bl a++bl c)).1=true/\(aD n (bl a)).1=false)) l (l.length:Int) i s.2 (k,c,())) (λj i s=>rfl) ([],(([p,q],n,()),(gy k.toNat (some (dW n (bl a++bl c))) m,d)))
 refine(congrArg (λo=>zee o F) (this.trans (VA p q n k h _ _ _ l 0 [] d dd (by simp;omega)))).trans ?_;rw[zc,zah,oH]
theorem Tw(p q:aW)(n d:Int)(h:cS p q)(x y:ByteArray)(e:Ev)(hs:x.size+y.size+e.2.1.size<=1000000000000):
 FX (gw ([p,q],n,()) n x y d) e=some ((bh p q n d (dn n (x,y) e).1).1,gw ([p,q],n,()) n (dn n (x,y) e).2.1 (dn n (x,y) e).2.2 (bh p q n d (dn n (x,y) e).1).2):=by
 obtain⟨k,c,u⟩:=e;cases u;dsimp only at hs;unfold FX zz8;rw[EY,zc];have fin:∀(a:ByteArray) (m:Option Fr×Option Fr),a.size+c.size<=1000000000000->k=0\/k=1->
  zk4 (bh p q n d (((bl c).foldl (aM n) ((aD n (bl a)).1,(aD n (bl a)).2.1,[])).2.2.map λx=>(k,some x))).1 (decide ((aD n (bl a++bl c)).1=true/\(aD n (bl a)).1=false)) (([p,q],n,()),m,(bh p q n d (((bl c).foldl (aM n) ((aD n (bl a)).1,(aD n (bl a)).2.1,[])).2.2.map λx=>(k,some x))).2) (k,c,()) (λa0 a1=>some (a0,a1))=
  some ((bh p q n d ((od n (bl a) (bl c)).map λi=>(k,i))).1,(([p,q],n,()),m,(bh p q n d ((od n (bl a) (bl c)).map λi=>(k,i))).2)):=λa m hs hk=>by
  have hlc:=zf c;have hlen:=(Zp n (bl c) ((aD n (bl a)).1,(aD n (bl a)).2.1,[])).2;rw[Kd,zaY,zcz,YY];unfold zk4;generalize hl:((bl c).foldl (aM n) ((aD n (bl a)).1,(aD n (bl a)).2.1,[])).2.2=l at hlen⊢;simp only[zav] at hlen;have e1:((λi=>(k,i))∘some:ByteArray->Item)=λx=>(k,some x):=rfl;rw[e1];cases decide ((aD n (bl a++bl c)).1=true/\(aD n (bl a)).1=false) with
  |false=>rw[zD,if_neg (by simp)];simp [bh]
  |true=>rw[zC,if_pos rfl,yc,zaR,zT (by simp only[ls,zav];omega),zC];simp [bh,oj]
 by_cases h0:k=0
 ·subst h0;rw[zT (.inl rfl),ab,zD];dsimp only;rw[oC];show(getM (0:Int).toNat (some (dW n (bl x)),some (dW n (bl y)))).bind _=_;rw[show getM (0:Int).toNat (some (dW n (bl x)),some (dW n (bl y)))=some (dW n (bl x)) from rfl,zc];refine(Ua p q n 0 h x c (some (dW n (bl x)),some (dW n (bl y))) d (by omega) _).trans ?_;dsimp only;rw[fin x _ (by omega) (.inl rfl)];rfl
 by_cases h1:k=1
 ·subst h1;rw[zT (.inr rfl),ab,zD];dsimp only;rw[oE];show(getM (1:Int).toNat (some (dW n (bl x)),some (dW n (bl y)))).bind _=_;rw[show getM (1:Int).toNat (some (dW n (bl x)),some (dW n (bl y)))=some (dW n (bl y)) from rfl,zc];refine(Ua p q n 1 h y c (some (dW n (bl x)),some (dW n (bl y))) d (by omega) _).trans ?_;dsimp only;rw[fin y _ (by omega) (.inr rfl)];rfl
 ·rw[zF (λe=>e.elim h0 h1),GW,zC];unfold dn;rw[if_neg h0,if_neg h1];rfl
def p7(l:List Ev):Nat:=(l.map λe=>e.2.1.size).sum
theorem Y2(e:Ev)(l:List Ev):p7 (e::l)=e.2.1.size+p7 l:=by simp [p7]
theorem zc5(n:Int)(x y:ByteArray)(e:Ev):(dn n (x,y) e).2.1.size+(dn n (x,y) e).2.2.size<=x.size+y.size+e.2.1.size/\(dn n (x,y) e).1.length<=e.2.1.size+1:=by
 unfold dn;split
 ·have:=V1 n (bl x) (bl e.2.1);rw[zf] at this;exact⟨by simp [zaU];omega,by simpa using this⟩
 ·split
  ·have:=V1 n (bl y) (bl e.2.1);rw[zf] at this;exact⟨by simp [zaU];omega,by simpa using this⟩
  ·exact⟨by simp,by simp⟩
def eY(n:Int):ByteArray×ByteArray->List Ev->List Item×(ByteArray×ByteArray)
 |xy,[]=>([],xy)
 |xy,e::r=>((dn n xy e).1++(eY n (dn n xy e).2 r).1,(eY n (dn n xy e).2 r).2)
theorem Ur(n:Int):∀(l:List Ev) (x y:ByteArray),(eY n (x,y) l).2.1.size+(eY n (x,y) l).2.2.size<=x.size+y.size+p7 l/\(eY n (x,y) l).1.length<=l.length+p7 l
 | [],x,y=>⟨by simp [eY],by simp [eY]⟩
 |e::l,x,y=>by have h1:=zc5 n x y e;have h2:=Ur n l (dn n (x,y) e).2.1 (dn n (x,y) e).2.2;rw[eY,Y2,ls];dsimp only;rw[th];have e2:((dn n (x,y) e).2.1,(dn n (x,y) e).2.2)=(dn n (x,y) e).2:=rfl;rw[e2] at h2;exact⟨by omega,by omega⟩
def G6(i:Int)(e:Ev)(s:List cT×Gw)(K:List cT×Gw->Option (List cT×Gw)):Option (List cT×Gw):=
 (FX s.2 e).bind λr1=>(bif(decide ((s.1.length+r1.1.length)*40<=140737488355328)) then K (s.1++r1.1,r1.2) else none)
section
variable (p q:aW) (n:Int) (h:cS p q)
include h
theorem XP:∀(l:List Ev) (i:Int) (s:List cT) (x y:ByteArray) (d:Int),x.size+y.size+p7 l<=1000000000000->s.length+l.length+p7 l<=3000000000000->
 aV G6 (λs=>some s) l i (s,gw ([p,q],n,()) n x y d)=some (s++(bh p q n d (eY n (x,y) l).1).1,gw ([p,q],n,()) n (eY n (x,y) l).2.1 (eY n (x,y) l).2.2 (bh p q n d (eY n (x,y) l).1).2)
 | [],i,s,x,y,d,_,_=>by rw[eY,bh,zay];rfl
 |e::l,i,s,x,y,d,h1,h2=>by
  rw[Y2] at h1 h2;rw[ls] at h2;have hz:=zc5 n x y e;rw[aV,G6,Tw p q n d h x y e (by omega),zc,yc,zT (by dsimp only;omega),zC,
   XP l (i+1) _ _ _ _ (by omega) (by dsimp only;rw[th,yc];omega),eY,YY,MM]
theorem alY(x y:ByteArray)(d:Int)(l:List Ev)(hs:x.size+y.size+p7 l<=1000000000000)(hl:l.length<=1000000000000):
 FY (gw ([p,q],n,()) n x y d) l=some ((bh p q n d (eY n (x,y) l).1).1,gw ([p,q],n,()) n (eY n (x,y) l).2.1 (eY n (x,y) l).2.2 (bh p q n d (eY n (x,y) l).1).2):=by
 unfold FY zza;dsimp only;have:=cn ((0:Int),bs [],()) l (by rw[zj];omega) G6 (λs=>some s) (λk i s=>zk5 k s.1 l (l.length:Int) i s.2) (λk i s=>rfl) ([],gw ([p,q],n,()) n x y d);refine(congrArg (λo=>zee o _) (this.trans (XP p q n h l 0 [] x y d hs (by simp;omega)))).trans ?_;rw[zc,zah];rfl
end
theorem Tu(c:xI)(n:Int)(x y:ByteArray)(d k:Int):xP (gw c n x y d) k=some (if k=0 then(aD n (bl x)).1 else if k=1 then(aD n (bl y)).1 else false,gw c n x y d):=by
 unfold xP zz6;rw[EY,zc];by_cases h0:k=0
 ·subst h0;rw[if_pos rfl,zT (.inl rfl),zC,oC];rfl
 by_cases h1:k=1
 ·subst h1;rw[if_neg h0,if_pos rfl,zT (.inr rfl),zC,oE];rfl
 ·rw[if_neg h0,if_neg h1,zF (λe=>e.elim h0 h1)];rfl
theorem ada(g:Gw):Nf g=some (g.2.2,g):=rfl
theorem zsg:yL=some true:=by kernel_rfl
def B9(most:Int)(i:Int)(x:Ev)(s:Int)(K:Int->Option (Sum QH (Int×Int))):Option (Sum QH (Int×Int)):=
 bif(decide (most<s)) then some (.inl (most,true,s)) else(bif(decide (most<(x.2.1.size:Int))) then some (.inl (most,true,s)) else K (zW zI (s+(x.2.1.size:Int))))
theorem Ui(most:Int)(h0:0<=most)(h1:most<=1000000):∀(l:List Ev) (i:Int) (s:Nat),∃r,aV (B9 most) (λs=>some (.inr (most,s))) l i (s:Int)=some r/\(∀z,r= .inl z->z.2.1=true)/\∀z,r= .inr z->z=(most,((s+p7 l:Nat):Int))
 | [],i,s=>⟨_,rfl,λz hz=>(by cases hz),λz hz=>(by cases hz;rfl)⟩
 |x::l,i,s=>by
  rw[aV,B9,Y2];by_cases h2:most<(s:Int)
  ·rw[zT h2];exact⟨_,rfl,λz hz=>(by cases hz;rfl),λz hz=>(by cases hz)⟩
  rw[zF h2,zD];by_cases h3:most<(x.2.1.size:Int)
  ·rw[zT h3];exact⟨_,rfl,λz hz=>(by cases hz;rfl),λz hz=>(by cases hz)⟩
  rw[zF h3,zD,zi (by omega) (by omega),show(s:Int)+(x.2.1.size:Int)=((s+x.2.1.size:Nat):Int) by omega];obtain⟨r,e1,e2,e3⟩:=Ui most h0 h1 l (i+1) (s+x.2.1.size);exact⟨r,e1,e2,λz hz=>by rw[e3 z hz,zdP]⟩
theorem apE(l:List Ev)(most:Int)(h0:0<=most)(h1:most<=1000000)(hl:l.length<=maxLen):∃b,jx l most=some b/\(b=false->((l.length+p7 l:Nat):Int)<=most):=by
 unfold jx ZX;dsimp only;have:=gf ((0:Int),bs [],()) l hl (B9 most) (λs=>some (.inr (most,s))) (λk i s=>ZW k l most s i)
  (λk i s hi wM=>by show Mr l most s i _ _ _=_;unfold Mr B9;rw[zT wM,zC,zl hi wM,zl hi wM])
  (λk s=>by show Mr l most s _ _ _ _=_;unfold Mr;rw[zF (by omega)];rfl) (l.length:Int)
 obtain⟨r,e1,e2,e3⟩:=Ui most h0 h1 l 0 l.length;rw[this,e1,zc];rcases r with z|z
 ·refine⟨z.2.1,rfl,λhb=> ?_⟩;rw[e2 z rfl] at hb;cases hb
 ·rw[e3 z rfl];refine⟨_,rfl,λhb=> ?_⟩;have:=of_decide_eq_false hb;omega
theorem Xz(p q:aW)(n:Int){g b:Bool}(hg:kd ([p,q],n,())=some g)(eM:g=false->cS p q){l:List Ev}{most:Int}(hb:jx l most=some b):
 F0 ([p,q],n,()) l most=some (bif g||b|| !decide ((gm p q n).1=0) then .inl () else .inr (true,gw ([p,q],n,()) n (bs []) (bs []) 0)):=by
 unfold F0 zzl;rw[hg,zc];cases g with
 |true=>rfl
 |false=>
  have h:=eM rfl;rw[zD,hb,zc];cases b with
  |true=>rfl
  |false=>
   rw[zD,Sz p q n h,zc];by_cases h0:(gm p q n).1=0
   case neg=>rw[zF h0];rfl
   rw[zT h0,ab,zD,afD p q n h,zc,ajE p q n h,zc,if_pos h0];rfl
abbrev tEv:Ty:= .pair (.int .i64) (.pair .str .unit)
theorem apj{c:xI}(hc:Wf zsw c){l:List Ev}(hl:Wf (.sl 0 tEv) l)(most:Int)(h0:0<=most)(h1:most<=1000000):
 ∃p q n g b,c=([p,q],n,())/\kd c=some g/\(g=false->cS p q)/\jx l most=some b/\(b=false->((l.length+p7 l:Nat):Int)<=most)/\
  F0 c l most=some (bif g||b|| !decide ((gm p q n).1=0) then .inl () else .inr (true,gw ([p,q],n,()) n (bs []) (bs []) 0)):=by
 obtain⟨p,q,n,rfl,g,hg,eM⟩:=api hc;obtain⟨b,hb,hs⟩:=apE l most h0 h1 hl.1;exact⟨p,q,n,g,b,rfl,hg,eM,hb,hs,Xz p q n hg eM hb⟩
end bz

namespace bz
open Go.IntKind renaming wrap->zW,i64->zI,u8->zU
open Go Go.Ref
theorem apz{l:List Ev}{j:Nat}(h:j<l.length):l.getD ((j:Int)).toNat ((0:Int),bs [],())=l[j]:=by rw[ba,be,ks h];rfl
abbrev iQ:=List ByteArray×List Int×List Bool×Int×Unit
def nk(n:Int)(x y:ByteArray)(d:Int):iQ:=([x,y],[((aD n (bl x)).2.2.length:Int),((aD n (bl y)).2.2.length:Int)],[(aD n (bl x)).1,(aD n (bl y)).1],d,())
def oF(t:iQ)(d:Int):iQ:=(t.1,t.2.1,t.2.2.1,d,())
section
variable (p q:aW) (n:Int) (h:cS p q) (hc:(gm p q n).1=0)
include h hc
theorem aiT(t:iQ)(k:Int)(hk:k=0\/k=1)(b:ByteArray)(hb:b.size<=1099511627776):
 s4 t ([p,q],n,()) k b=some ((pT p q n k t.2.2.2.1 b).1,oF t (pT p q n k t.2.2.2.1 b).2):=by
 unfold s4 zpk pT;rw[adb p q n k b h hc hk hb,zc];have hs:=UE (p:=p) (q:=q) (n:=n) k b;have hp:=aiU _ (show(iE p q n k b).2.size<=70000 by omega);generalize iE p q n k b=r at hs hp⊢;by_cases h3:r.1=3
 ·rw[zT h3,if_pos h3,zC];rfl
 rw[zF h3,if_neg h3,zD];by_cases h1:r.1=1
 ·rw[zT h1,if_pos h1,zC,hp,zc,h1];rfl
 ·rw[zF h1,if_neg h1,zD,hp,zc];rfl
omit h hc in
def G5(c:xI)(k:Int)(L:List ByteArray)(en:Int)(e:Ev)(i:Int)(x:ByteArray)(s:List cT×iQ)(K:List cT×iQ->Option (List cT×List ByteArray×Int×iQ×Ev)):Option (List cT×List ByteArray×Int×iQ×Ev):=
 (s4 s.2 c k x).bind λr2=>(bif(decide ((s.1.length+(aa ([r2.1]:List cT)))*40<=140737488355328)) then K (s.1++([r2.1]:List cT),r2.2) else none)
theorem XM(k:Int)(hk:k=0\/k=1)(L:List ByteArray)(en:Int)(e:Ev):∀(l:List ByteArray) (i:Int) (s:List cT) (t:iQ),(∀x∈l,x.size<=1099511627776)->s.length+l.length<=3000000000000->
 aV (G5 ([p,q],n,()) k L en e) (λs=>some (s.1,L,en,s.2,e)) l i (s,t)=some (s++(bh p q n t.2.2.2.1 (l.map λx=>(k,some x))).1,L,en,oF t (bh p q n t.2.2.2.1 (l.map λx=>(k,some x))).2,e)
 | [],i,s,t,_,_=>by rw[zbK,bh,zay];rfl
 |x::l,i,s,t,hb,hl=>by
  simp only[ls] at hl;rw[aV,G5,aiT p q n h hc t k hk x (hb x (by simp)),zc,zT (by simp only[ls,zav];omega),zC,
   XM k hk L en e l (i+1) _ _ (λy hy=>hb y (by simp [hy])) (by simp;omega),zaq,bh,MM]
  rfl
theorem We(k:Int)(hk:k=0\/k=1)(a c:ByteArray)(t:iQ)(hs:a.size+c.size<=1000000000)(F:List cT×List ByteArray×Int×iQ×Ev->Option (List cT×iQ)):
 ((nw n (a++c)).bind λr1=>(Fx af ([]:List cT) r1.1 r1.2.2.2 ((aD n (bl a)).2.2.length:Int) t ([p,q],n,()) (k,c,())).bind F)=
   F ((bh p q n t.2.2.2.1 (((bl c).foldl (aM n) ((aD n (bl a)).1,(aD n (bl a)).2.1,[])).2.2.map λx=>(k,some x))).1,(aD n (bl a++bl c)).2.2,(fx n 0 (bl (a++c))).2.2.2,oF t (bh p q n t.2.2.2.1 (((bl c).foldl (aM n) ((aD n (bl a)).1,(aD n (bl a)).2.1,[])).2.2.map λx=>(k,some x))).2,(k,c,())):=by
 have hla:=zf a;have hlc:=zf c;rw[zwf n (a++c) (by rw[zaU];omega),zc];dsimp only;have aaD:=Wi n (bl (a++c)) (λx hx=>ii hx);have tJ:=z8m n (bl a) (bl c);have e1:(fx n 0 (bl (a++c))).1=(aD n (bl a++bl c)).2.2:=by rw[<-oH,aaD]
 have e4:(aD n (bl a++bl c)).2.2=(aD n (bl a)).2.2++((bl c).foldl (aM n) ((aD n (bl a)).1,(aD n (bl a)).2.1,[])).2.2:=by rw[tJ]
 rw[e1];generalize(fx n 0 (bl (a++c))).2.2.2=en;have hlen:=(zwi n (bl a++bl c)).2;rw[th] at hlen;have dd:∀x∈(aD n (bl a++bl c)).2.2,x.size<=1099511627776:=λx hx=>by
  rcases Tj n (bl a++bl c) (false,[],[]) x hx with h2|h2
  ·cases h2
  ·simp only[th,zav] at h2;omega
 generalize(aD n (bl a++bl c)).2.2=l at e4 hlen dd⊢;have Gz:l.length=(aD n (bl a)).2.2.length+((bl c).foldl (aM n) ((aD n (bl a)).1,(aD n (bl a)).2.1,[])).2.2.length:=by rw[e4,th]
 have:=LN (bs []) l (by omega) (G5 ([p,q],n,()) k l en (k,c,())) (λs=>some (s.1,l,en,s.2,(k,c,())))
  (λj i s=>Fx j s.1 l en i s.2 ([p,q],n,()) (k,c,())) (λj i s=>rfl) (l.length-(aD n (bl a)).2.2.length) (aD n (bl a)).2.2.length af ([],t) (by omega) (by rw[zo];omega)
 rw[show l.drop (aD n (bl a)).2.2.length=((bl c).foldl (aM n) ((aD n (bl a)).1,(aD n (bl a)).2.1,[])).2.2 by rw[e4,List.drop_left]] at this;refine(congrArg (λo=>zee o F) (this.trans (XM p q n h hc k hk l en (k,c,()) _ _ [] t (λx hx=>dd x (by rw[e4];exact zbE _ hx)) (by simp;omega)))).trans ?_;rw[zc,zah]
theorem Th(x y:ByteArray)(d:Int)(e:Ev)(hs:x.size+y.size+e.2.1.size<=1000000000):
 pg (nk n x y d) ([p,q],n,()) e=some ((bh p q n d (dn n (x,y) e).1).1,nk n (dn n (x,y) e).2.1 (dn n (x,y) e).2.2 (bh p q n d (dn n (x,y) e).1).2):=by
 obtain⟨k,c,u⟩:=e;cases u;dsimp only at hs;unfold pg zpj;dsimp only;have key:∀(a:ByteArray),a.size+c.size<=1000000000->k=0\/k=1->(((bl c).foldl (aM n) ((aD n (bl a)).1,(aD n (bl a)).2.1,[])).2.2.length<=c.size)/\
  bh p q n d ((od n (bl a) (bl c)).map λi=>(k,i))=bif decide ((aD n (bl a++bl c)).1=true/\(aD n (bl a)).1=false) then
   ((bh p q n d (((bl c).foldl (aM n) ((aD n (bl a)).1,(aD n (bl a)).2.1,[])).2.2.map λx=>(k,some x))).1++ [(k,4,bs [],(bh p q n d (((bl c).foldl (aM n) ((aD n (bl a)).1,(aD n (bl a)).2.1,[])).2.2.map λx=>(k,some x))).2,())],(bh p q n d (((bl c).foldl (aM n) ((aD n (bl a)).1,(aD n (bl a)).2.1,[])).2.2.map λx=>(k,some x))).2)
   else bh p q n d (((bl c).foldl (aM n) ((aD n (bl a)).1,(aD n (bl a)).2.1,[])).2.2.map λx=>(k,some x)):=λa hs hk=>by
  have hlc:=zf c;have hlen:=(Zp n (bl c) ((aD n (bl a)).1,(aD n (bl a)).2.1,[])).2;simp only[zav] at hlen;refine⟨by omega,?_⟩;rw[Kd,zaY,zcz,YY];have e1:((λi=>(k,i))∘some:ByteArray->Item)=λx=>(k,some x):=rfl;rw[e1];cases decide ((aD n (bl a++bl c)).1=true/\(aD n (bl a)).1=false) with
  |false=>rw[zD,if_neg (by simp)];simp [bh]
  |true=>rw[zC,if_pos rfl];simp [bh,oj]
 have ends:∀(a:ByteArray),decide ((0:Int)<=(fx n 0 (bl (a++c))).2.2.2)=(aD n (bl a++bl c)).1:=λa=>by rw[<-oH,Wi n _ (λx hx=>ii hx)]
 have dead:∀(a:ByteArray),(aD n (bl a)).1=true->(aD n (bl a++bl c)).1=true:=λa ha=>by rw[z8m,ha,L2]
 by_cases h0:k=0
 ·subst h0;obtain⟨hl,ho⟩:=key x (by omega) (.inl rfl);rw[zF (by decide),zD,zF (by decide),zD];simp only[oC];show(bif decide (x.size+c.size<=9223372036854775807) then(nw n (x++c)).bind λr1=>(Fx af ([]:List cT) r1.1 r1.2.2.2 ((aD n (bl x)).2.2.length:Int) ([x++c,y],_,_,d,()) ([p,q],n,()) (0,c,())).bind _ else none)=_;rw[zT (by omega),zC,We p q n h hc 0 (.inl rfl) x c _ (by omega)];unfold Z0 dn;simp only[oC,if_pos,oF,ends,ho];rw[show an (nk n x y d).2.2.1 (0:Int).toNat false=(aD n (bl x)).1 from rfl];have hd:=dead x;have hx:nk n (x++c) y=λd=>([x++c,y],[((aD n (bl x++bl c)).2.2.length:Int),((aD n (bl y)).2.2.length:Int)],[(aD n (bl x++bl c)).1,(aD n (bl y)).1],d,()):=by unfold nk;rw[oH]
  rw[hx];generalize(aD n (bl x++bl c)).2.2=L;cases h1:(aD n (bl x++bl c)).1 with
  |false=>
   rw[h1] at hd;cases h2:(aD n (bl x)).1 with
   |true=>exact absurd (hd h2) (by decide)
   |false=>unfold nk;rw[h2];rfl
  |true=>
   cases h2:(aD n (bl x)).1 with
   |true=>unfold nk;rw[h2];rfl
   |false=>rw[zC,GW,zC,yc,zaR,zT (by simp only[ls,zav];rw[h2] at hl;omega),zC];rfl
 by_cases h1:k=1
 ·subst h1;obtain⟨hl,ho⟩:=key y (by omega) (.inr rfl);rw[zF (by decide),zD,zF (by decide),zD];simp only[oE];show(bif decide (y.size+c.size<=9223372036854775807) then(nw n (y++c)).bind λr1=>(Fx af ([]:List cT) r1.1 r1.2.2.2 ((aD n (bl y)).2.2.length:Int) ([x,y++c],_,_,d,()) ([p,q],n,()) (1,c,())).bind _ else none)=_;rw[zT (by omega),zC,We p q n h hc 1 (.inr rfl) y c _ (by omega)];unfold Z0 dn;simp only[oE,if_neg h0,if_pos,oF,ends,ho];rw[show an (nk n x y d).2.2.1 (1:Int).toNat false=(aD n (bl y)).1 from rfl];have hd:=dead y;have hx:nk n x (y++c)=λd=>([x,y++c],[((aD n (bl x)).2.2.length:Int),((aD n (bl y++bl c)).2.2.length:Int)],[(aD n (bl x)).1,(aD n (bl y++bl c)).1],d,()):=by unfold nk;rw[oH]
  rw[hx];generalize(aD n (bl y++bl c)).2.2=L;cases h1:(aD n (bl y++bl c)).1 with
  |false=>
   rw[h1] at hd;cases h2:(aD n (bl y)).1 with
   |true=>exact absurd (hd h2) (by decide)
   |false=>unfold nk;rw[h2];rfl
  |true=>
   cases h2:(aD n (bl y)).1 with
   |true=>unfold nk;rw[h2];rfl
   |false=>rw[zC,GW,zC,yc,zaR,zT (by simp only[ls,zav];rw[h2] at hl;omega),zC];rfl
 ·have e:dn n (x,y) (k,c,())=([],(x,y)):=by unfold dn;rw[if_neg h0,if_neg h1]
  rw[e];by_cases h2:k<0
  ·rw[zT h2];rfl
  ·rw[zF h2,zT (by omega)];rfl
end
end bz

namespace bz
open Go.IntKind renaming wrap->zW,i64->zI,u8->zU
open Go Go.Ref
theorem Tx(a b:List cT)(h:a.length<=maxLen):nx a b=some (decide (a=b)):=by
 unfold nx zpf;by_cases hl:a.length=b.length
 ·rw[zT (by omega)];simp only[ab,zD];rw[ai0 ((0:Int),(0:Int),bs [],(0:Int),()) (λx y=>(decide (x.1=y.1))&&((decide (x.2.1=y.2.1))&&((decide (x.2.2.1=y.2.2.1))&&((decide (x.2.2.2.1=y.2.2.2.1))&&true)))) (λx y=>by obtain⟨x1,x2,x3,x4,x5⟩:=x;obtain⟨y1,y2,y3,y4,y5⟩:=y;simp) a b hl h (λk i=>ZZ k a b i) (λk i=>rfl)]
  by_cases e:a=b
  ·simp [e,zph]
  ·simp [e,zpg]
 ·rw[zF (by omega)];have:a≠b:=λe=>hl (by rw[e]);simp [this]
theorem aeh:jx [] 0=some false:=by obtain⟨k,hk⟩:=O2;unfold jx ZX;rw[hk];rfl
def xl(c:xI)(i:Int)(e:Ev)(s:List cT×iQ)(K:List cT×iQ->Option (List cT)):Option (List cT):=
 (pg s.2 c e).bind λr1=>(bif(decide ((s.1.length+r1.1.length)*40<=140737488355328)) then K (s.1++r1.1,r1.2) else none)
section
variable (p q:aW) (n:Int) (h:cS p q) (hc:(gm p q n).1=0)
include h hc
theorem Wh:∀(l:List Ev) (i:Int) (s:List cT) (x y:ByteArray) (d:Int),x.size+y.size+p7 l<=1000000000->s.length+l.length+p7 l<=3000000000000->
 aV (xl ([p,q],n,())) (λs=>some s.1) l i (s,nk n x y d)=some (s++(bh p q n d (eY n (x,y) l).1).1)
 | [],i,s,x,y,d,_,_=>by rw[eY,bh,zay];rfl
 |e::l,i,s,x,y,d,h1,h2=>by
  rw[Y2] at h1 h2;rw[ls] at h2;have hz:=zc5 n x y e;rw[aV,xl,Th p q n h hc x y d e (by omega),zc,yc,zT (by dsimp only;omega),zC,
   Wh l (i+1) _ _ _ _ (by omega) (by dsimp only;rw[th,yc];omega),eY,YY,MM]
theorem aiV(l:List Ev)(hs:p7 l<=1000000000)(hl:l.length<=1000000000):vp ([p,q],n,()) l=some (bh p q n 0 (eY n (bs [],bs []) l).1).1:=by unfold vp zpd;dsimp only;have:=cn ((0:Int),bs [],()) l (by rw[zj];omega) (xl ([p,q],n,())) (λs=>some s.1) (λk i s=>ZY k l s.1 i ([p,q],n,()) s.2) (λk i s=>rfl) ([],nk n (bs []) (bs []) 0);have h0:(bs []).size=0:=rfl;refine(congrArg (λo=>zee o _) (this.trans (Wh p q n h hc l 0 [] (bs []) (bs []) 0 (by omega) (by simp;omega)))).trans ?_;rw[zc,zah];rfl
theorem aiZ(l:List Ev)(hl:l.length<=1000000):∀(m j k:Nat) (x y:ByteArray) (d:Int),j+m=l.length->m<k->x.size+y.size+p7 (l.drop j)<=1000000->
 MV k l true l (l.length:Int) (j:Int) ([p,q],n,()) (gw ([p,q],n,()) n x y d) (nk n x y d)=some (.inr (l,([p,q],n,()))):=by
 intro m
 induction m with
 |zero=>
  intro j k x y d hj hk hs;obtain⟨k,rfl⟩:∃k',k=k'+1:=⟨k-1,by omega⟩
  rw[MV,zk7,zF (by omega)];rfl
 |succ m ih=>
  intro j k x y d hj hk hs;obtain⟨k,rfl⟩:∃k',k=k'+1:=⟨k-1,by omega⟩
  have ap:j<l.length:=by omega
  rw[AT ap,Y2] at hs;have hz:=zc5 n x y l[j];have e1:=ih (j+1) k _ _ (bh p q n d (dn n (x,y) l[j]).1).2 (by omega) (by omega) (show(dn n (x,y) l[j]).2.1.size+(dn n (x,y) l[j]).2.2.size+_<=_ by omega);rw[MV,zk7,zT (by omega),zC,zh ap,apz ap,Tw p q n d h x y l[j] (by omega),zc,Th p q n h hc x y d l[j] (by omega),zc];rw[Tx _ _ (by dsimp only;rw[yc,zj];omega),zc,zT rfl,ab,zD,ada,zc];generalize bh p q n d (dn n (x,y) l[j]).1=o at e1⊢;generalize dn n (x,y) l[j]=z at e1⊢;dsimp only;rw[show(gw ([p,q],n,()) n z.2.1 z.2.2 o.2).2.2=o.2 from rfl,show(nk n z.2.1 z.2.2 o.2).2.2.2.1=o.2 from rfl,zT rfl,ab,zD,Tu,zc,if_pos rfl,oC];dsimp only;rw[show an (nk n z.2.1 z.2.2 o.2).2.2.1 (0:Int).toNat false=(aD n (bl z.2.1)).1 from rfl,BEq.rfl,ab,zD,Tu,zc,if_neg (by decide),if_pos rfl,oE];dsimp only;rw[show an (nk n z.2.1 z.2.2 o.2).2.2.1 (1:Int).toNat false=(aD n (bl z.2.2)).1 from rfl,BEq.rfl,ab,zD,zq (by omega)];exact e1
end
theorem jG(c:xI)(l:List Ev)(hc:Wf zsw c)(hl:Wf (.sl 0 tEv) l):Pw c l=some true:=by
 obtain⟨p,q,n,g,b,rfl,hg,eM,hb,hs,hm⟩:=apj hc hl 2500 (by omega) (by omega);unfold Pw zzj;rw[hm,zc];cases g with
 |true=>simp only[zgC,zC,zek,zsg,zc,ab,zD,hg]
 |false=>
 have h:=eM rfl;cases b with
 |true=>simp only[Bool.or_true,zgC,zC,zek,zsg,zc,ab,zD,hg,hb]
 |false=>
 have hs:=hs rfl;by_cases h0:(gm p q n).1=0
 case neg=>simp only[zF h0,zb2,GW,Bool.or_true,zC,zek,zsg,zc,ab,zD,hg,hb,Sz p q n h]
 rw[zT h0,zb2,ab,zb2,zD,zaA,zsg,zc,ab,zD];dsimp only;rw[zD];have hz:(bs []).size=0:=rfl;have e1:=aiZ p q n h h0 l (by omega) l.length 0 af (bs []) (bs []) 0 (by omega) (by rw[zo];omega) (by rw[GS];omega);refine(congrArg (λo=>zee o _) e1).trans ?_;rw[zc,zaA];unfold zzk;dsimp only;rw[Xz p q n hg eM aeh,zc,zT h0,zb2,ab,zb2,zD,zaA];dsimp only;have hi:=Ur n l (bs []) (bs []);rw[alY p q n h (bs []) (bs []) 0 l (by omega) (by omega),zc,aiV p q n h h0 l (by omega) (by omega),zc,Tx _ _ (by dsimp only;rw[yc,zj];omega),zc,zT rfl]
end bz

