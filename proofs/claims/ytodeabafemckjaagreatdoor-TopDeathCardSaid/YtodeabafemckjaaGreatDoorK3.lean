/- No condition. -/
import Derived.Test.YtodeabafemckjaaGreatDoorK2
import Derived.Laws.RangeString
set_option linter.unusedVariables false
set_option linter.unusedSimpArgs false
set_option maxRecDepth 100000
open BitVec renaming toNat_and->j9
open Bool renaming not_true->ai,and_eq_true->ar,not_false->aV,or_eq_false_iff->cF,true_and->dO,false_or->dx,and_false->eR,or_false->jS,and_true->iB
open ByteArray renaming size_extract->b9,size_append->ci,data_append->dS,ext->lJ
open Go.IntKind renaming bits->eX
open Go.Lib renaming repeatL->jt
open Go.Utf8 renaming decode->dp
open Int renaming toNat_natCast->aw,fdiv->aX,toNat_of_nonneg->cU,le_refl->dw,reduceEq->dJ,tdiv->dj,tmod_eq_emod_of_nonneg->jl,tdiv_eq_ediv_of_nonneg->jk,eq_ofNat_of_zero_le->jZ,add_zero->ko
open List renaming length->ag,getD_eq_getElem?_getD->aq,getElem?_eq_getElem->au,replicate->aB,mem_cons_of_mem->aG,length_cons->aF,length_append->aJ,mem_cons->aH,drop_eq_nil_of_le->aP,drop_eq_getElem_cons->aM,drop_zero->aO,take->aI,mem_cons_self->aW,mem_append->aR,length_take->aU,all_eq_true->aY,mem_filter->bc,append_assoc->bd,pairwise_cons->bF,eq_nil_of_length_eq_zero->bD,drop->bk,map_cons->bq,mem_map->bM,length_drop->bW,append_nil->bY,nil_append->b6,take_length->cC,getElem_mem->cB,length_singleton->cj,mem_of_find?_eq_some->cn,pairwise_append->cG,foldl_cons->cw,take_of_length_le->cp,map_append->cz,length_nil->cL,take_zero->cX,mem_append_left->dm,set->cK,mem_append_right->dT,find?_cons->eJ,any_eq_true->ke,foldl_append->dE,filter_cons->dQ,length_replicate->fF,all_cons->iG,mem_of_mem_drop->iP,replicate_succ->eY,find?_some->jd,getElem_take->jM,dropLast_concat_getLast->iH,take_add_one->jO,all_append->kI,getD_cons_succ->ln,drop_succ_cons->ll
open List.Pairwise renaming nil->hN,imp_of_mem->jD
open Nat renaming le_refl->bg,min_eq_left->bL,zero_le->bR,pow_le_pow_right->cO,testBit_lt_two_pow->dq,lt_of_lt_of_le->fw,lt_or_ge->eg,testBit_two_pow->dM,testBit_eq_decide_div_mod_eq->eK,testBit_and->jf,lt_of_le_of_lt->gJ,and_two_pow_sub_one_eq_mod->hI,eq_of_testBit_eq->iQ,and_le_left->je,two_pow_add_eq_or_of_lt->iY,pow_succ->jn,div_div_eq_div_mul->kh,two_pow_pos->kK,ble_eq_true_of_le->kD
open Option renaming bind_some->ap
open Option.some renaming inj->cA
open Sum renaming elim->aA,elim_inr->cc,elim_inl->l7
namespace eL
open Go.IntKind renaming wrap->zW,i64->zI,u8->zU
open Go Go.Ref
theorem G3(n a:Nat)(h:a<2^n):(BitVec.ofInt n (a:Int)).toNat=a:=by
 rw[BitVec.toNat_ofInt];have h2:((a:Int)% ((2^n:Nat):Int))=((a % 2^n:Nat):Int):=by rfl
 rw[h2,aw,Nat.mod_eq_of_lt h]
theorem Ln{a:Nat}(h:a<18446744073709551616):IntKind.u64.wrap (a:Int)=a:=aog (by omega) (by omega)
theorem uT{a b:Nat}(ha:a<18446744073709551616)(hb:b<18446744073709551616):dn .and .u64 a b=((a&&&b:Nat):Int):=by simp only[dn,j9,G3 IntKind.u64.bits a ha,G3 IntKind.u64.bits b hb];exact Ln (gJ je ha)
theorem Ew{a b:Nat}(ha:a<18446744073709551616)(hb:b<18446744073709551616):dn .or .u64 a b=((a|||b:Nat):Int):=by simp only[dn,BitVec.toNat_or,G3 IntKind.u64.bits a ha,G3 IntKind.u64.bits b hb];exact Ln (Nat.or_lt_two_pow (n:=64) ha hb)
theorem ajB{a b:Nat}(ha:a<18446744073709551616)(hb:b<18446744073709551616):dn .andNot .u64 a b=((a&&&(18446744073709551615-b):Nat):Int):=by simp only[dn,j9,BitVec.toNat_not,G3 IntKind.u64.bits a ha,G3 IntKind.u64.bits b hb];have:2^IntKind.u64.bits-1-b=18446744073709551615-b:=rfl;rw[this];exact Ln (gJ je ha)
theorem amp{a b:Nat}(ha:a<9223372036854775808)(hb:b<9223372036854775808):dn .and .i64 a b=((a&&&b:Nat):Int):=by simp only[dn,j9,G3 IntKind.i64.bits a (Nat.lt_trans ha (by decide)),G3 IntKind.i64.bits b (Nat.lt_trans hb (by decide))];have:=gJ (je (n:=a) (m:=b)) ha;exact EX (by omega)
theorem Tc(a:Nat)(k:Nat)(hk:k<=64):aX (a:Int) (2^min ((k:Int)).toNat 64)=((a/2^k:Nat):Int):=by rw[Int.fdiv_eq_ediv_of_nonneg _ (Int.pow_nonneg (by decide)),aw,bL hk];rfl
section
variable {c0 c1 c2 c3 c4 c5 c6 c7:Nat}
end
def zz(x:Nat):Nat:=if x=0 then 0 else x.log2+1
theorem Vv(x:Nat):x<2^zz x/\(x≠0->2^(zz x-1)<=x/\1<=zz x):=by
 unfold zz;split
 ·simp_all
 ·rename_i h;exact⟨Nat.lt_log2_self,λ_=>⟨by simpa using Nat.log2_self_le h,by omega⟩⟩
theorem ab5{x L:Nat}(h1:x<2^L)(h2:L≠0->2^(L-1)<=x):zz x=L:=by
 obtain⟨g1,g2⟩:=Vv x;by_cases hx:x=0
 ·subst hx;by_cases hL:L=0
  ·rw[hL];rfl
  ·have:=h2 hL;have:=kK (L-1);omega
 ·obtain⟨g3,g4⟩:=g2 hx;rcases Nat.lt_trichotomy (zz x) L with h|h|h
  ·have:=h2 (by omega);have:2^zz x<=2^(L-1):=cO (by decide) (by omega);omega
  ·exact h
  ·have:2^L<=2^(zz x-1):=cO (by decide) (by omega);omega
theorem z98{x k:Nat}(h:2^k<=x):zz x=zz (x/2^k)+k:=by
 have hp:=kK k;have hq:x/2^k≠0:=by have:=Nat.div_pos h hp;omega
 obtain⟨g1,g2⟩:=Vv (x/2^k);obtain⟨g3,g4⟩:=g2 hq;apply ab5
 ·rw[Nat.pow_add];exact(Nat.div_lt_iff_lt_mul hp).1 g1
 ·intro _;have:zz (x/2^k)+k-1=(zz (x/2^k)-1)+k:=by omega
  rw[this,Nat.pow_add];exact(Nat.le_div_iff_mul_le hp).1 g3
def tL:List Nat:=[0,1,2,2,3,3,3,3,4,4,4,4,4,4,4,4,5,5,5,5,5,5,5,5,5,5,5,5,5,5,5,5]++aB 32 6++aB 64 7++aB 128 8
theorem akO:∀c:Fin 256,tL.getD c.1 0=zz c.1:=by decide+kernel
def GH(x:Int):ae Int:=
 let t:Int->Int->ae Int:=λn x=>zd (zW zU x) (bs tL).size (some (zW zI (n+zW zI (ze (bs tL) (zW zU x).toNat))));let c:Int->Int->ae Int:=λn x=>bif decide ((256:Int)<=x) then t (zW zI (n+8)) (aX x (2^min ((8:Int)).toNat 64)) else t n x;let b:Int->Int->ae Int:=λn x=>bif decide ((65536:Int)<=x) then c (zW zI (n+16)) (aX x (2^min ((16:Int)).toNat 64)) else c n x
 bif decide ((4294967296:Int)<=x) then b 32 (aX x (2^min ((32:Int)).toNat 64)) else b 0 x
theorem acC(x:Int):AY x=GH x:=by kernel_rfl
theorem agT(c:Nat)(h:c<256):ze (bs tL) c=((zz c:Nat):Int):=by rw[uy,F7 (by decide+kernel),<-akO ⟨c,h⟩,aq,List.getElem?_map,aq];cases tL[c]? <;>rfl
theorem zzz{x k:Nat}(h:x<2^k):zz x<=k:=by
 by_cases hx:x=0
 ·subst hx;simp [zz]
 ·obtain⟨g3,g4⟩:=(Vv x).2 hx;rcases eg k (zz x) with h1|h1
  ·have:2^k<=2^(zz x-1):=cO (by decide) (by omega);omega
  ·exact h1
theorem ahZ(x:Nat)(hx:x<18446744073709551616):AY x=some ((zz x:Nat):Int):=by
 rw[acC];unfold GH;simp only;have ht:∀(n:Nat) (c:Nat),n<=100->c<256->zd (zW zU (c:Int)) (bs tL).size (some (zW zI ((n:Int)+zW zI (ze (bs tL) (zW zU (c:Int)).toNat))))=some (((n+zz c:Nat):Int)):=by
  intro n c hn hc;have hl:(bs tL).size=256:=by rw[<-zg,F7 (by decide+kernel)];rfl
  have hb:=zzz (k:=8) hc;rw[Cr (by omega) (by omega),hl,zi hc,aw,agT c hc,EX (by omega),zk (by omega) (by omega)];rfl
 have f8:∀a:Nat,aX (a:Int) (2^min ((8:Int)).toNat 64)=((a/2^8:Nat):Int):=λa=>Tc a 8 (by omega);have f16:∀a:Nat,aX (a:Int) (2^min ((16:Int)).toNat 64)=((a/2^16:Nat):Int):=λa=>Tc a 16 (by omega);have f32:∀a:Nat,aX (a:Int) (2^min ((32:Int)).toNat 64)=((a/2^32:Nat):Int):=λa=>Tc a 32 (by omega);have hc:∀(n:Nat) (y:Nat),n<=48->y<65536->(bif decide ((256:Int)<=(y:Int)) then zd (zW zU (aX (y:Int) (2^min ((8:Int)).toNat 64))) (bs tL).size (some (zW zI (zW zI ((n:Int)+8)+zW zI (ze (bs tL) (zW zU (aX (y:Int) (2^min ((8:Int)).toNat 64))).toNat)))) else zd (zW zU (y:Int)) (bs tL).size (some (zW zI ((n:Int)+zW zI (ze (bs tL) (zW zU (y:Int)).toNat)))))=some (((n+zz y:Nat):Int)):=by
  intro n y hn hy;by_cases h:256<=y
  ·rw[zT (by omega),zC,f8,zk (x:=(n:Int)+8) (by omega) (by omega)];have:=ht (n+8) (y/2^8) (by omega) (by omega);rw[show((n:Int)+8)=((n+8:Nat):Int) from rfl,this,z98 (k:=8) h];congr 2;omega
  ·rw[zF (by omega),zD];exact ht n y (by omega) (by omega)
 have hb:∀(n:Nat) (y:Nat),n<=32->y<4294967296->(bif decide ((65536:Int)<=(y:Int)) then(bif decide ((256:Int)<=aX (y:Int) (2^min ((16:Int)).toNat 64)) then zd (zW zU (aX (aX (y:Int) (2^min ((16:Int)).toNat 64)) (2^min ((8:Int)).toNat 64))) (bs tL).size (some (zW zI (zW zI (zW zI ((n:Int)+16)+8)+zW zI (ze (bs tL) (zW zU (aX (aX (y:Int) (2^min ((16:Int)).toNat 64)) (2^min ((8:Int)).toNat 64))).toNat)))) else zd (zW zU (aX (y:Int) (2^min ((16:Int)).toNat 64))) (bs tL).size (some (zW zI (zW zI ((n:Int)+16)+zW zI (ze (bs tL) (zW zU (aX (y:Int) (2^min ((16:Int)).toNat 64))).toNat))))) else
  (bif decide ((256:Int)<=(y:Int)) then zd (zW zU (aX (y:Int) (2^min ((8:Int)).toNat 64))) (bs tL).size (some (zW zI (zW zI ((n:Int)+8)+zW zI (ze (bs tL) (zW zU (aX (y:Int) (2^min ((8:Int)).toNat 64))).toNat)))) else zd (zW zU (y:Int)) (bs tL).size (some (zW zI ((n:Int)+zW zI (ze (bs tL) (zW zU (y:Int)).toNat))))))=some (((n+zz y:Nat):Int)):=by
  intro n y hn hy;by_cases h:65536<=y
  ·rw[zT (by omega),zC,f16,zk (x:=(n:Int)+16) (by omega) (by omega)];have:=hc (n+16) (y/2^16) (by omega) (by omega);rw[show((n:Int)+16)=((n+16:Nat):Int) from rfl,this,z98 (k:=16) h];congr 2;omega
  ·rw[zF (by omega),zD];exact hc n y (by omega) (by omega)
 by_cases h:4294967296<=x
 ·rw[zT (by omega),zC,f32];have:=hb 32 (x/2^32) (by omega) (by omega);rw[show((32:Nat):Int)=32 from rfl] at this;rw[this,z98 (k:=32) h];congr 2;omega
 ·rw[zF (by omega),zD];have:=hb 0 x (by omega) (by omega);rw[show((0:Nat):Int)=0 from rfl] at this;rw[this];congr 2;omega
theorem z9r(x:Nat)(hx:x<18446744073709551616):uH x=some (((64-zz x:Nat)):Int):=by unfold uH Xj;have:=zzz (k:=64) hx;rw[ahZ x hx,zc,zk (by omega) (by omega)];congr 1;omega
end eL

namespace eL
open Go.IntKind renaming wrap->zW,i64->zI,u8->zU
open Go Go.Ref
abbrev Da:=Int×Int×Unit
abbrev lB:Nat:=18446744073709551616
def hP(h l:Nat)(n:Int):Bool:=
 if 1<=n/\n<=64 then h.testBit (64-n).toNat else if 65<=n/\n<=128 then l.testBit (128-n).toNat else false
def qg(n:Int):Nat:=if 1<=n/\n<=64 then 2^(64-n).toNat else 0
def qh(n:Int):Nat:=if 65<=n/\n<=128 then 2^(128-n).toNat else 0
theorem zps{k:Nat}(h:k<64):2^k<lB:=Nat.pow_lt_pow_right (by decide) h
theorem YX(n:Int):qg n<lB:=by
 unfold qg;split
 ·exact zps (by omega)
 ·decide
theorem YY(n:Int):qh n<lB:=by
 unfold qh;split
 ·exact zps (by omega)
 ·decide
theorem RZ{k:Nat}(h:k<64):IntKind.u64.wrap ((1:Int)*2^min k 64)=((2^k:Nat):Int):=by
 rw[bL (by omega),Int.one_mul];have:=zps h;have e:((2:Int)^k)=((2^k:Nat):Int):=by simp
 rw[e];exact Ln this
theorem St(n:Int):Km n=some ((qg n:Int),(qh n:Int),()):=by
 unfold Km zry qg qh;by_cases h1:n<1
 ·rw[zT h1,if_neg (by omega),if_neg (by omega)];rfl
 rw[zF h1,zD];by_cases h2:128<n
 ·rw[zT h2,if_neg (by omega),if_neg (by omega)];rfl
 rw[zF h2,zD];by_cases h3:n<=64
 ·rw[zT h3,zC,zk (by omega) (by omega),zF (by omega),zD,RZ (by omega),if_pos (by omega),if_neg (by omega)];rfl
 ·rw[zF h3,zD,zk (by omega) (by omega),zF (by omega),zD,RZ (by omega),if_neg (by omega),if_pos (by omega)];rfl
theorem z95(h k:Nat):(h&&&2^k=0)↔h.testBit k=false:=by
 constructor
 ·intro e;have:=congrArg (λx=>x.testBit k) e;simpa [jf,dM] using this
 ·intro e;apply iQ;intro i;rw[jf,dM];by_cases hi:k=i
  ·subst hi;simp [e]
  ·simp [hi]
theorem am8(h l:Nat)(hh:h<lB)(hl:l<lB)(n:Int):LU ((h:Int),(l:Int),()) n=some (hP h l n):=by
 unfold LU zrv Ai Uj;rw[St,zc,uT hh (YX n),uT hl (YY n),zc];congr 1;simp only[iB];have e:∀a:Nat,decide ((a:Int)=0)=decide (a=0):=λa=>decide_eq_decide.2 (by omega);rw[e,e];unfold qg qh hP;by_cases h1:1<=n/\n<=64
 ·rw[if_pos h1,if_pos h1,if_neg (by omega)];have:=z95 h (64-n).toNat;cases hb:h.testBit (64-n).toNat with
  |false=>simp [this.2 hb]
  |true=>simp;intro hz;exact absurd (this.1 hz) (by simp [hb])
 ·rw[if_neg h1,if_neg h1];by_cases h2:65<=n/\n<=128
  ·rw[if_pos h2,if_pos h2];have:=z95 l (128-n).toNat;cases hb:l.testBit (128-n).toNat with
   |false=>simp [this.2 hb]
   |true=>simp;intro hz;exact absurd (this.1 hz) (by simp [hb])
  ·rw[if_neg h2,if_neg h2];simp
theorem zdq(h l h' l':Nat)(hh:h<lB)(hl:l<lB)(HV:h'<lB)(sP:l'<lB):Bn ((h:Int),(l:Int),()) ((h':Int),(l':Int),())=some (((h|||h':Nat):Int),((l|||l':Nat):Int),()):=by unfold Bn zru;rw[Ew hh HV,Ew hl sP]
theorem Rc(h l h' l':Nat)(hh:h<lB)(hl:l<lB)(HV:h'<lB)(sP:l'<lB):Ai ((h:Int),(l:Int),()) ((h':Int),(l':Int),())=some (((h&&&h':Nat):Int),((l&&&l':Nat):Int),()):=by unfold Ai Uj;rw[uT hh HV,uT hl sP]
theorem RA(h l:Nat)(hh:h<lB)(hl:l<lB)(n:Int):Fi ((h:Int),(l:Int),()) n=some (((h|||qg n:Nat):Int),((l|||qh n:Nat):Int),()):=by unfold Fi zrx;rw[St,zc,zdq h l _ _ hh hl (YX n) (YY n)];rfl
theorem Ce{a b:Nat}(ha:a<lB)(hb:b<lB):a|||b<lB:=Nat.or_lt_two_pow (n:=64) ha hb
theorem Sp{a b:Nat}(ha:a<lB):a&&&b<lB:=gJ je ha
theorem an9(h l h' l':Nat)(n:Int):hP (h|||h') (l|||l') n=(hP h l n||hP h' l' n):=by
 unfold hP;split
 ·rw[Nat.testBit_or]
 ·split
  ·rw[Nat.testBit_or]
  ·rfl
theorem z194(h l h' l':Nat)(n:Int):hP (h&&&h') (l&&&l') n=(hP h l n&&hP h' l' n):=by
 unfold hP;split
 ·rw[jf]
 ·split
  ·rw[jf]
  ·rfl
def ru(n:Int):Bool:=decide (1<=n/\n<=128)
theorem amJ(m n:Int):hP (qg m) (qh m) n=(decide (m=n)&&ru n):=by
 unfold hP qg qh ru;by_cases h1:1<=n/\n<=64
 ·rw[if_pos h1];by_cases h2:1<=m/\m<=64
  ·rw[if_pos h2,dM,zT (p:=1<=n/\n<=128) (by omega),iB];exact decide_eq_decide.2 (by omega)
  ·rw[if_neg h2,zF (by omega:¬m=n)];simp
 ·rw[if_neg h1];by_cases h3:65<=n/\n<=128
  ·rw[if_pos h3];by_cases h2:65<=m/\m<=128
   ·rw[if_pos h2,dM,zT (p:=1<=n/\n<=128) (by omega),iB];exact decide_eq_decide.2 (by omega)
   ·rw[if_neg h2,zF (by omega:¬m=n)];simp
  ·rw[if_neg h3,zF (p:=1<=n/\n<=128) (by omega),eR]
theorem akc(h l:Nat)(m n:Int):hP (h|||qg m) (l|||qh m) n=(hP h l n||(decide (m=n)&&ru n)):=by rw[an9,amJ]
theorem zhn{h l:Nat}{n:Int}(hh:hP h l n=true):1<=n/\n<=128:=by
 unfold hP at hh;split at hh
 ·omega
 ·split at hh
  ·omega
  ·cases hh
theorem am0{h l h' l':Nat}(hh:h<lB)(hl:l<lB)(HV:h'<lB)(sP:l'<lB)(e:∀n:Int,1<=n->n<=128->hP h l n=hP h' l' n):h=h'/\l=l':=by
 constructor
 ·apply iQ;intro i;by_cases hi:i<64
  ·have:=e (64-i) (by omega) (by omega);unfold hP at this;rw[if_pos (by omega),if_pos (by omega)] at this;have e2:(64-(64-(i:Int))).toNat=i:=by omega
   rwa [e2] at this
  ·rw[dq (fw hh (cO (n:=2) (by decide) (by omega:64<=i))),dq (fw HV (cO (n:=2) (by decide) (by omega:64<=i)))]
 ·apply iQ;intro i;by_cases hi:i<64
  ·have:=e (128-i) (by omega) (by omega);unfold hP at this;have h1:¬(1<=128-(i:Int)/\128-(i:Int)<=64):=by omega
   have h2:65<=128-(i:Int)/\128-(i:Int)<=128:=by omega
   rw[if_neg h1,if_pos h2,if_neg h1,if_pos h2] at this;have e2:(128-(128-(i:Int))).toNat=i:=by omega
   rwa [e2] at this
  ·rw[dq (fw hl (cO (n:=2) (by decide) (by omega:64<=i))),dq (fw sP (cO (n:=2) (by decide) (by omega:64<=i)))]
def my(l:List Int):Nat:=l.foldl (λa n=>a|||qg n) 0
def mz(l:List Int):Nat:=l.foldl (λa n=>a|||qh n) 0
theorem ztn(f:Int->Nat)(hf:∀n,f n<lB)(l:List Int):∀a,a<lB->l.foldl (λa n=>a|||f n) a<lB:=by
 induction l with
 |nil=>intro a h;exact h
 |cons x r ih=>intro a h;exact ih _ (Ce h (hf x))
theorem Cz(l:List Int):my l<lB:=ztn _ YX l 0 (by decide)
theorem CA(l:List Int):mz l<lB:=ztn _ YY l 0 (by decide)
theorem aj7(l:List Int):∀(a b:Nat) (n:Int),hP (l.foldl (λa n=>a|||qg n) a) (l.foldl (λa n=>a|||qh n) b) n=(hP a b n||(decide (n∈l)&&ru n)):=by
 induction l with
 |nil=>intro a b n;simp
 |cons x r ih=>
  intro a b n;rw[cw,cw,ih,akc];by_cases h1:x=n
  ·subst h1;cases ru x<;>simp
  ·have:n≠x:=λe=>h1 e.symm;simp [h1,this]
theorem Y7(l:List Int)(n:Int):hP (my l) (mz l) n=(decide (n∈l)&&ru n):=by
 unfold my mz;rw[aj7];have:hP 0 0 n=false:=by unfold hP;simp
 rw[this];simp
theorem amR(xs:List Int)(hx:xs.length<=9223372036854775807)(b0:Da):∀(n j k:Nat) (a b:Nat),j+n=xs.length->n<k->a<lB->b<lB->
 Hl k xs (xs.length:Int) j b0 ((a:Int),(b:Int),())=some (b0,((((xs.drop j).foldl (λa n=>a|||qg n) a:Nat):Int),(((xs.drop j).foldl (λa n=>a|||qh n) b:Nat):Int),())):=by
 intro n
 induction n with
 |zero=>
  intro j k a b hj hk ha hb;obtain⟨k,rfl⟩:∃k',k=k'+1:=⟨k-1,by omega⟩
  rw[Hl,Ui,zF (by omega),aP (by omega)];rfl
 |succ n ih=>
  intro j k a b hj hk ha hb;obtain⟨k,rfl⟩:∃k',k=k'+1:=⟨k-1,by omega⟩
  have bS:j<xs.length:=by omega
  have N6:xs.getD ((j:Int)).toNat 0=xs[j]:=by rw[aw,aq,au bS];rfl
  rw[Hl,Ui,zT (by omega),zC,zi bS,N6,RA a b ha hb,zc,zu (by omega),ih (j+1) k _ _ (by omega) (by omega) (Ce ha (YX _)) (Ce hb (YY _)),aM bS];rfl
theorem E9(xs:List Int)(hx:xs.length<=maxLen):CC xs=some ((my xs:Int),(mz xs:Int),()):=by rw[zh] at hx;unfold CC Z9;have:=amR xs hx (0,0,()) xs.length 0 bE 0 0 (by omega) (by rw[zr];omega) (by decide) (by decide);simp only[zrt];have e:Hl bE xs (xs.length:Int) 0 (0,0,()) (0,0,())=_:=this;rw[e];rfl
def wQ:List Int:=(List.range 128).map λk:Nat=>((k+1:Nat):Int)
theorem akr(n:Int):n∈wQ↔1<=n/\n<=128:=by
 unfold wQ;constructor
 ·intro h;obtain⟨k,hk,rfl⟩:=bM.1 h;have:=List.mem_range.1 hk;omega
 ·intro h;exact bM.2 ⟨(n-1).toNat,List.mem_range.2 (by omega),by omega⟩
theorem adf:wQ.Pairwise (· < ·):=by unfold wQ;exact List.Pairwise.map _ (λa b h=>by omega) List.pairwise_lt_range
def elems(h l:Nat):List Int:=wQ.filter (hP h l)
theorem S5(h l:Nat)(n:Int):n∈elems h l↔hP h l n=true:=by unfold elems;rw[bc,akr];exact⟨λh=>h.2,λh=>⟨zhn h,h⟩⟩
theorem zhe(h l:Nat):(elems h l).Pairwise (· < ·):=adf.filter _
def pZ(h l:Nat)(n:Int):Int:=((elems h l).filter λm=>decide (n<m)).headD 0
def Ze(h l:Nat)(n r:Int):Prop:=(r=0/\∀m,n<m->hP h l m=false)\/(n<r/\hP h l r=true/\∀m,n<m->m<r->hP h l m=false)
theorem akw(h l:Nat)(n:Int):Ze h l n (pZ h l n):=by
 unfold pZ;cases hf:(elems h l).filter λm=>decide (n<m) with
 |nil=>
  left;refine⟨rfl,λm hm=> ?_⟩;cases hb:hP h l m with
  |false=>rfl
  |true=>have:m∈(elems h l).filter λm=>decide (n<m):=bc.2 ⟨(S5 h l m).2 hb,by simpa using hm⟩;rw[hf] at this;cases this
 |cons x r=>
  right;have hx:x∈(elems h l).filter λm=>decide (n<m):=by rw[hf];simp
  obtain⟨h1,h2⟩:=bc.1 hx;refine⟨by simpa using h2,(S5 h l x).1 h1,λm hm hmx=> ?_⟩;cases hb:hP h l m with
  |false=>rfl
  |true=>
   have jH:m∈(elems h l).filter λm=>decide (n<m):=bc.2 ⟨(S5 h l m).2 hb,by simpa using hm⟩;have hs:=(zhe h l).filter (λm=>decide (n<m));rw[hf] at jH hs;rcases aH.1 jH with e|e
   ·simp only[List.headD_cons] at hmx;omega
   ·have:=(bF.1 hs).1 m e;simp only[List.headD_cons] at hmx;omega
theorem acd{h l:Nat}{n r q:Int}(h1:Ze h l n r)(h2:Ze h l n q):r=q:=by
 rcases h1 with⟨e,a⟩|⟨e,a,b⟩<;>rcases h2 with⟨e',a'⟩|⟨e',a',b'⟩
 ·rw[e,e']
 ·rw[a q e'] at a';cases a'
 ·rw[a' r e] at a;cases a
 ·rcases Int.lt_trichotomy r q with h|h|h
  ·rw[b' r e h] at a;cases a
  ·exact h
  ·rw[b q e' h] at a';cases a'
theorem PY(x n:Nat)(hx:x<lB)(hn:n<=64):
 (x*2^n % lB=0/\∀i,i<64-n->x.testBit i=false)\/
 (x*2^n % lB≠0/\zz (x*2^n % lB)<=64/\n<zz (x*2^n % lB)/\x.testBit (zz (x*2^n % lB)-1-n)=true/\∀i,zz (x*2^n % lB)-1-n<i->i<64-n->x.testBit i=false):=by
 have hb:∀i,(x*2^n % lB).testBit i=(decide (i<64)&&(decide (n<=i)&&x.testBit (i-n))):=by intro i;rw[show lB=2^64 from rfl,Nat.testBit_mod_two_pow,Nat.testBit_mul_two_pow]
 generalize x*2^n % lB=r at hb;have hr:∀i,i<64-n->x.testBit i=r.testBit (i+n):=by intro i hi;rw[hb,zT (by omega),zT (by omega),Nat.add_sub_cancel];rfl
 by_cases h0:r=0
 ·left;refine⟨h0,λi hi=> ?_⟩;rw[hr i hi,h0];simp
 ·right;obtain⟨g1,g2⟩:=Vv r;obtain⟨g3,g4⟩:=g2 h0;have aaG:r.testBit (zz r-1)=true:=by
   rw[eK];have hp:=kK (zz r-1);have:r/2^(zz r-1)=1:=by
    apply Nat.div_eq_of_lt_le
    ·omega
    ·have:2^zz r=2*2^(zz r-1):=by rw[<-Nat.pow_succ'];congr 1;omega
     omega
   rw[this];rfl
  have bS:=aaG;rw[hb] at bS;simp only[ar,decide_eq_true_eq] at bS;refine⟨h0,by omega,by omega,?_,λi h1 h2=> ?_⟩
  ·exact bS.2.2
  ·rw[hr i h2];exact dq (fw g1 (cO (by decide) (by omega)))
theorem RY(x n:Nat)(hn:n<=64):IntKind.u64.wrap ((x:Int)*2^min ((n:Int)).toNat 64)=((x*2^n % lB:Nat):Int):=by
 rw[R6,aw,bL hn];have e:((x:Int)*2^n)=((x*2^n:Nat):Int):=by simp
 rw[e];rfl
theorem Rd(h l:Nat)(hh:h<lB)(hl:l<lB)(n:Int)(hn1: -9223372036854775808<=n)(hn2:n<=9223372036854775807):Kl ((h:Int),(l:Int),()) n=some (pZ h l n):=by
 have goal:∀r,Ze h l n r->some r=some (pZ h l n):=λr hr=>by rw[acd hr (akw h l n)]
 unfold Kl zrw;obtain⟨m,hm,hmn⟩:∃m:Nat,(if n<(0:Int) then(0:Int) else n)=(m:Int)/\(n<=(m:Int)/\(0<=n->n=m)/\(n<0->m=0)):=by
  by_cases h0:n<0
  ·exact⟨0,by rw[if_pos h0];rfl,by omega,by omega,by omega⟩
  ·exact⟨n.toNat,by rw[if_neg h0];omega,by omega,by omega,by omega⟩
 have ud:∀k:Int,k<=0->hP h l k=false:=λk hk=>by unfold hP;rw[if_neg (by omega),if_neg (by omega)]
 have low:∀(sH base:Nat),sH<=64->(sH<64->base=64+sH)->(sH=64->128<=base)->(m:Int)<=base->base<=9223372036854775807->(∀k,n<k->k<=base->k<=128->hP h l k=false)->
  (bif !(decide (IntKind.u64.wrap ((l:Int)*2^min ((sH:Int)).toNat 64)=0)) then(uH (IntKind.u64.wrap ((l:Int)*2^min ((sH:Int)).toNat 64))).bind (λr=>some (zW zI (zW zI ((base:Int)+r)+1))) else some 0)=some (pZ h l n):=by
  intro sH base h1 h2 h2' h3 aoo h4;rw[RY l sH h1];have bS:l*2^sH % lB<lB:=Nat.mod_lt _ (by decide);rcases PY l sH hl h1 with⟨e,w⟩|⟨e,w1,w2,w3,w4⟩
  ·rw[e,zT (by rfl)];refine goal 0 (.inl ⟨rfl,λk hk=> ?_⟩);by_cases HZ:k<=base/\k<=128
   ·exact h4 k hk HZ.1 HZ.2
   ·unfold hP;by_cases KA:65<=k/\k<=128
    ·rw[if_neg (by omega),if_pos KA];exact w _ (by omega)
    ·by_cases hk4:1<=k/\k<=64
     ·omega
     ·rw[if_neg hk4,if_neg KA]
  ·have aaD:sH<64:=by omega
   have aoj:=h2 aaD;rw[zF (by omega)];simp only[aV,zC];rw[z9r _ bS,zc,zk (x:=(base:Int)+_) (by omega) (by omega),zk (by omega) (by omega)];refine goal _ (.inr ⟨by omega,?_,λk U1 HZ=> ?_⟩)
   ·unfold hP;rw[if_neg (by omega),if_pos (by omega)];have:(128-((base:Int)+((64-zz (l*2^sH % lB):Nat):Int)+1)).toNat=zz (l*2^sH % lB)-1-sH:=by omega
    rw[this];exact w3
   ·by_cases KA:k<=base
    ·exact h4 k U1 KA (by omega)
    ·unfold hP;rw[if_neg (by omega),if_pos (by omega)];exact w4 _ (by omega) (by omega)
 simp only[hm];by_cases c1:m<64
 ·rw[zT (by omega),zC,zF (by omega),zD,RY h m (by omega)];have bS:h*2^m % lB<lB:=Nat.mod_lt _ (by decide);rcases PY h m hh (by omega) with⟨e,w⟩|⟨e,w1,w2,w3,w4⟩
  ·rw[e,zT (by rfl)];have:=low 0 64 (by omega) (by omega) (by omega) (by omega) (by omega) (λk U1 HZ _=>by
    by_cases KA:1<=k
    ·unfold hP;rw[if_pos (by omega)];exact w _ (by omega)
    ·exact ud k (by omega))
   exact this
  ·rw[zF (by omega)];simp only[aV,zC];rw[z9r _ bS,zc,zk (x:=(m:Int)+_) (by omega) (by omega),zk (by omega) (by omega)];refine goal _ (.inr ⟨by omega,?_,λk U1 HZ=> ?_⟩)
   ·unfold hP;rw[if_pos (by omega)];have:(64-((m:Int)+((64-zz (h*2^m % lB):Nat):Int)+1)).toNat=zz (h*2^m % lB)-1-m:=by omega
    rw[this];exact w3
   ·by_cases KA:1<=k
    ·unfold hP;rw[if_pos (by omega)];exact w4 _ (by omega) (by omega)
    ·exact ud k (by omega)
 ·rw[zF (by omega),zD,zk (x:=(m:Int)-64) (by omega) (by omega)];have aot:((m:Int)-64)=((m-64:Nat):Int):=by omega
  obtain⟨sH,hs,CM⟩:∃sH:Nat,(if(64:Int)<(m:Int)-64 then(64:Int) else(m:Int)-64)=(sH:Int)/\sH<=64/\(sH<64->m=64+sH)/\(sH=64->128<=m):=by
   by_cases h0:(64:Int)<(m:Int)-64
   ·exact⟨64,by rw[if_pos h0];rfl,by omega,by omega,by omega⟩
   ·exact⟨m-64,by rw[if_neg h0];omega,by omega,by omega,by omega⟩
  simp only[hs];rw[zF (by omega),zD];exact low sH m CM.1 CM.2.1 CM.2.2 (by omega) (by omega) (λk U1 HZ _=>by omega)
theorem PA(n a:Nat)(h:a<2^n):(BitVec.ofInt n (a:Int)).toNat=a:=by
 rw[BitVec.toNat_ofInt];have h2:((a:Int)% ((2^n:Nat):Int))=((a % 2^n:Nat):Int):=by rfl
 rw[h2,aw,Nat.mod_eq_of_lt h]
theorem acA{k:IntKind}{a b:Nat}(ha:a<2^k.bits)(hb:b<2^k.bits):dn .or k a b=k.wrap ((a|||b:Nat):Int):=by simp only[dn,BitVec.toNat_or,PA _ _ ha,PA _ _ hb]
def n7(b:List Int):Int:=if b.length<2 then 0 else b.getD 0 0*256+b.getD 1 0
theorem zpr{x y:Int}(hx:zn x)(hy:zn y):dn .or .i64 (zW zI (zW zI x*2^min (8:Int).toNat 64)) (zW zI y)=x*256+y:=by
 unfold zn at hx hy;obtain⟨x,rfl⟩:=jZ hx.1;obtain⟨y,rfl⟩:=jZ hy.1;rw[EX (by omega),EX (by omega)];have h1:((x:Int)*(2:Int)^min (8:Int).toNat 64)=((x<<<8:Nat):Int):=by rw[Nat.shiftLeft_eq];rfl
 have h3:x<<<8=x*256:=by rw[Nat.shiftLeft_eq]
 rw[h1,EX (by omega),acA (by simp only[eX];omega) (by simp only[eX];omega),<-Nat.shiftLeft_add_eq_or_of_lt (by omega:y<2^8),h3,EX (by omega)];omega
theorem S4{b:List Int}(hb:∀x∈b,zn x)(i:Nat):zn (b.getD i 0):=by
 rw[aq];cases h:b[i]? with
 |none=>exact⟨by simp,by simp⟩
 |some x=>exact hb x (List.mem_of_getElem? h)
theorem PQ{b:List Int}(hb:∀x∈b,zn x):0<=n7 b/\n7 b<=65535:=by unfold n7;have h0:=S4 hb 0;have h1:=S4 hb 1;unfold zn at h0 h1;split<;>omega
abbrev Fr:=Int×Bool×List Int×Unit
theorem am1(m:Int)(d:Bool)(b:List Int)(hb:∀x∈b,zn x):LY (m,d,b,())=some (n7 b,(m,d,b,())):=by
 unfold LY zs3 n7;simp only;by_cases h:b.length<2
 ·rw[zT (by omega:((b.length:Int)<2)),if_pos h];rfl
 ·rw[zF (by omega:¬((b.length:Int)<2)),if_neg h,zD,zm (by omega) (by omega),zm (by omega) (by omega)];exact congrArg some (Prod.ext (zpr (S4 hb 0) (S4 hb 1)) rfl)
def dh(m:Int)(st:Bool×List Int×List af)(c:Int):Bool×List Int×List af:=
 if st.1=true then st
 else if(st.2.1++ [c]).length=2/\(n7 (st.2.1++ [c])=0\/m<n7 (st.2.1++ [c])) then(true,[],st.2.2)
 else if((st.2.1++ [c]).length:Int)=2+n7 (st.2.1++ [c])/\0<n7 (st.2.1++ [c]) then(false,[],st.2.2++ [strOf ((st.2.1++ [c]).drop 2)])
 else(false,st.2.1++ [c],st.2.2)
theorem Jz(m:Int)(l:List Int)(b:List Int)(o:List af):l.foldl (dh m) (true,b,o)=(true,b,o):=by
 induction l with
 |nil=>rfl
 |cons c r ih=>rw[cw];have:dh m (true,b,o) c=(true,b,o):=by simp [dh]
               rw[this,ih]
def T3(m:Int)(d:Bool)(r:Bool×List Int×List af):Sum (List af×Bool×List af×Fr) (List af×Fr):=
 if r.1=true/\d=false then .inl (r.2.2,true,r.2.2,(m,true,[],())) else .inr (r.2.2,(m,r.1,r.2.1,()))
theorem adV(m:Int)(l:List Int):∀(d:Bool) (b:List Int) (o:List af),d=false->(l.foldl (dh m) (d,b,o)).1=true->(l.foldl (dh m) (d,b,o)).2.1=[]:=by
 induction l with
 |nil=>intro d b o hd h;subst hd;cases h
 |cons c r ih=>
  intro d b o hd h;subst hd;rw[cw] at h⊢;generalize gv:dh m (false,b,o) c=st at h⊢;obtain⟨d',b',o'⟩:=st;cases d' with
  |false=>exact ih false b' o' rfl h
  |true=>
   rw[Jz];unfold dh at gv;simp only[Bool.false_eq_true,if_false] at gv;split at gv
   ·cases gv;rfl
   ·split at gv<;>cases gv
theorem O9(s:af)(m:Int):∀(n j k:Nat) (o:List af) (d:Bool) (b:List Int),j+n=(bl s).length->n<k->(∀x∈b,zn x)->b.length+n<=4398046511104->o.length+n<=4398046511104->(bl s).length<=4398046511104->
 Kd k s o j (m,d,b,())=some (T3 m d (((bl s).drop j).foldl (dh m) (d,b,o)))
 |0,j,k,o,d,b,hj,hk,hb,h1,h2,h3=>by
  obtain⟨k,rfl⟩:∃k',k=k'+1:=⟨k-1,by omega⟩
  rw[Kd,Uk];have bS:¬((j:Int)<(s.size:Int)):=by rw[<-zg];omega
  rw[zF bS,aP (by omega)];cases d<;>rfl
 |n+1,j,k,o,d,b,hj,hk,hb,h1,h2,h3=>by
  obtain⟨k,rfl⟩:∃k',k=k'+1:=⟨k-1,by omega⟩
  rw[Kd,Uk];have bS:j<(bl s).length:=by omega
  have ou:((j:Int)<(s.size:Int)):=by rw[<-zg];omega
  rw[zT ou,zC,aM bS,cw];cases d with
  |true=>
   have hs:dh m (true,b,o) (bl s)[j]=(true,b,o):=by simp [dh]
   rw[hs,Jz];simp [T3]
  |false=>
   have hc:ze s ((j:Int)).toNat=(bl s)[j]:=by rw[uy,aw,aq,au bS];rfl
   have hbc:zn (bl s)[j]:=sY (cB bS);generalize hcv:(bl s)[j]=c at hc hbc;rw[hc];have BG:∀x∈b++ [c],zn x:=λx hx=>by
    rcases aR.1 hx with h|h
    ·exact hb x h
    ·simp at h;subst h;exact hbc
   have lV:=am1 m false (b++ [c]) BG;have hr:=PQ BG;have hw:zW zI ((2:Int)+n7 (b++ [c]))=2+n7 (b++ [c]):=zk (by omega) (by omega);have hjw:zW zI ((j:Int)+1)=((j+1:Nat):Int):=zu (by omega);have hl:(b++ [c]).length=b.length+1:=by simp
   rw[zi (by rw[<-zg];exact bS)];simp only[aV,zC];rw[zT (by simp;omega),zC,lV];simp only[zc,hw,hjw];generalize hn:n7 (b++ [c])=z at hr hw;have ih:=λo d b=>O9 s m n (j+1) k o d b (by omega) (by omega);have UY:dh m (false,b,o) c=if(b++ [c]).length=2/\(z=0\/m<z) then(true,[],o) else if((b++ [c]).length:Int)=2+z/\0<z then(false,[],o++ [strOf ((b++ [c]).drop 2)]) else(false,b++ [c],o):=by unfold dh;simp only[Bool.false_eq_true,if_false,hn]
   have dead:∀(l:List Int),T3 m false (l.foldl (dh m) (true,[],o))= .inl (o,true,o,(m,true,[],())):=λl=>by rw[Jz];simp [T3]
   have HY:=ih o false (b++ [c]) BG (by rw[hl];omega) (by omega) h3;have aap:=ih (o++ [strOf ((b++ [c]).drop 2)]) false [] (by simp) (by simp;omega) (by simp;omega) h3;have Nv:bk ((2:Int)).toNat (aI (b++ [c]).length (b++ [c]))=(b++ [c]).drop 2:=by rw[cC];rfl
   simp only[Nv];have aat:∀(x:ae (Sum (List af×Bool×List af×Fr) (List af×Fr))),(bif decide (((o.length+ [strOf ((b++ [c]).drop 2)].length)*16:Nat)<=140737488355328) then x else none)=x:=λx=>by rw[zT (by simp;omega)];rfl
   by_cases c1:(b++ [c]).length=2
   ·by_cases c2:z=0
    ·rw[UY,if_pos ⟨c1,.inl c2⟩,dead];simp [c1,c2]
    ·by_cases c3:m<z
     ·rw[UY,if_pos ⟨c1,.inr c3⟩,dead];simp [c1,c2,c3]
     ·rw[UY,if_neg (by simp [c2,c3])];have c4:¬(((b++ [c]).length:Int)=2+z):=by omega
      rw[if_neg (λh=>c4 h.1),<-HY];have c1':(((b++ [c]).length:Int)=2):=by omega
      rw[zT c1',zF c2,zF c3,zF c4];rfl
   ·have c1':¬(((b++ [c]).length:Int)=2):=by omega
    rw[UY,if_neg (λh=>c1 h.1),zF c1'];by_cases c4:((b++ [c]).length:Int)=2+z
    ·by_cases c5:0<z
     ·rw[if_pos ⟨c4,c5⟩,<-aap,zT c4,zT c5,zT (by omega:(2:Int)<=(((b++ [c]).length:Nat):Int))];simp only[zC,zD];rw[aat]
     ·rw[if_neg (λh=>c5 h.2),<-HY,zT c4,zF c5];rfl
    ·rw[if_neg (λh=>c4 h.1),<-HY,zF c4];rfl
def feed(f:Fr)(s:List Int):List af×Bool×Fr:=
 ((s.foldl (dh f.1) (f.2.1,f.2.2.1,[])).2.2,decide ((s.foldl (dh f.1) (f.2.1,f.2.2.1,[])).1=true/\f.2.1=false),(f.1,(s.foldl (dh f.1) (f.2.1,f.2.2.1,[])).1,(s.foldl (dh f.1) (f.2.1,f.2.2.1,[])).2.1,()))
theorem amG(f:Fr)(s:af)(hb:∀x∈f.2.2.1,zn x)(h1:f.2.2.1.length+s.size<=4398046511104):Hy f s=some (feed f (bl s)):=by
 obtain⟨m,d,b,u⟩:=f;cases u;unfold Hy zs0;simp only at hb h1⊢;have:=O9 s m (bl s).length 0 bE [] d b (by omega) (by rw[zr,zg];omega) hb (by rw[zg];omega) (by simp;rw[zg];omega) (by rw[zg];omega);rw[show((0:Nat):Int)=0 from rfl] at this;rw[this,zc,aO];unfold T3 feed;simp only;split
 ·rename_i h;obtain⟨h4,h5⟩:=h;subst h5;have h3:=adV m (bl s) false b [] rfl h4;simp [l7,zs1,h3,h4]
 ·rename_i h;simp only[cc,zs2];rw[zF h]
section
variable {α:Type} [DecidableEq α]
theorem zud(d:α)(eq:α->α->Bool)(heq:∀x y,eq x y=true↔x=y)(a b:List α)(hl:a.length=b.length)(h:a.length<=9223372036854775807)(L:Nat->Int->ae (Sum Bool Unit))
 (step:∀k (i:Int),L (k+1) i=bif decide (i<(a.length:Int)) then zd i a.length (zd i b.length (bif !(eq (a.getD i.toNat d) (b.getD i.toNat d)) then some (.inl false) else L k (zW zI (i+1)))) else some (.inr ())):
 ∀(m j k:Nat),j+m=a.length->m<k->L k j=some (if a.drop j=b.drop j then .inr () else .inl false)
 |0,j,k,hj,hk=>by
  obtain⟨k,rfl⟩:∃k',k=k'+1:=⟨k-1,by omega⟩
  rw[step,zF (by omega),aP (by omega),aP (by omega)];simp
 |m+1,j,k,hj,hk=>by
  obtain⟨k,rfl⟩:∃k',k=k'+1:=⟨k-1,by omega⟩
  have ha:j<a.length:=by omega
  have hb:j<b.length:=by omega
  rw[step,zT (by omega),zC,zi ha,zi hb,zu (by omega),zud d eq heq a b hl h L step m (j+1) k (by omega) (by omega),aM ha,aM hb,aw];have h1:a.getD j d=a[j]:=by rw[aq,au ha];rfl
  have h2:b.getD j d=b[j]:=by rw[aq,au hb];rfl
  rw[h1,h2];by_cases e:a[j]=b[j]
  ·rw[(heq _ _).2 e,e];simp only[List.cons.injEq,true_and,ai,zD]
  ·have:eq a[j] b[j]=false:=by
    cases hh:eq a[j] b[j] with
    |false=>rfl
    |true=>exact absurd ((heq _ _).1 hh) e
   rw[this];simp only[List.cons.injEq,e,false_and,if_false,aV,zC]
theorem ahp(d:α)(eq:α->α->Bool)(heq:∀x y,eq x y=true↔x=y)(a b:List α)(hl:a.length=b.length)(h:a.length<=maxLen)(L:Nat->Int->ae (Sum Bool Unit))
 (step:∀k (i:Int),L (k+1) i=bif decide (i<(a.length:Int)) then zd i a.length (zd i b.length (bif !(eq (a.getD i.toNat d) (b.getD i.toNat d)) then some (.inl false) else L k (zW zI (i+1)))) else some (.inr ())):
 L bE 0=some (if a=b then .inr () else .inl false):=by
 have:=zud d eq heq a b hl (by rw[zh] at h;exact h) L step a.length 0 bE (by omega) (by rw[zr];rw[zh] at h;omega);simpa using this
end
def ri(m:Int)(pos:Int)(l:List Int):List af×List Int×List Int×Int:=
 if h:l.length<2 then([],l,[],-1)
 else if n7 l=0\/m<n7 l then([],[],[],pos+2)
 else if(l.length:Int)-2<n7 l then([],l,[],-1)
 else
  let r:=ri m (pos+2+n7 l) (l.drop (2+(n7 l).toNat))
  (strOf ((l.drop 2).take (n7 l).toNat)::r.1,r.2.1,(pos+2+n7 l)::r.2.2.1,r.2.2.2)
termination_by l.length
decreasing_by simp only[bW];omega
end eL

namespace eL
open Go.IntKind renaming wrap->zW,i64->zI,u8->zU
open Go Go.Ref
theorem aka{l:List Int}{j:Nat}(h:j<l.length):l.getD ((j:Int)).toNat 0=l[j]:=by rw[aw,aq,au h];rfl
theorem agQ(l:List Int)(n:Int)(hl:l.length<=maxLen):∀(m j k:Nat),j+m=l.length->m<k->
 z93 k l n j=some (if n∈l.drop j then .inl true else .inr ()):=by
 intro m;rw[zh] at hl
 induction m with
 |zero=>
  intro j k hj hk;obtain⟨k,rfl⟩:∃k',k=k'+1:=⟨k-1,by omega⟩
  rw[z93,Uo,zF (by omega),aP (by omega)];simp
 |succ m ih=>
  intro j k hj hk;obtain⟨k,rfl⟩:∃k',k=k'+1:=⟨k-1,by omega⟩
  have bS:j<l.length:=by omega
  rw[z93,Uo,zT (by omega),zC,zi bS,aka bS,zu (by omega),aM bS];by_cases h:l[j]=n
  ·rw[zT h,if_pos (by rw[h];simp)];rfl
  ·rw[zF h,zD,ih (j+1) k (by omega) (by omega)];have:n≠l[j]:=λe=>h e.symm;simp only[aH,this,false_or]
theorem ak4(l:List Int)(n:Int)(hl:l.length<=maxLen):L8 l n=some (decide (n∈l)):=by
 unfold L8 zsv;dsimp only;have:=agQ l n hl l.length 0 bE (by omega) (by rw[zr];rw[zh] at hl;omega);rw[show((0:Nat):Int)=0 from rfl,aO] at this;rw[this,zc];by_cases h:n∈l
 ·rw[if_pos h,zT h];rfl
 ·rw[if_neg h,zF h];rfl
theorem akB:wQ.length=128:=by unfold wQ;simp
abbrev Spec:=Int×Int×Int×Int×Int×Unit
abbrev zf:=Int×Int×List Spec×Unit
abbrev lu:Spec:=(0,0,0,0,0,())
theorem Y8(c:Int):Fb c=some (if c=1 then 1 else if c=2 then 2 else if c=3 then 3 else if c=4 then 7 else if c=5 then 15 else if c=6 then 15 else 0):=by
 unfold Fb ZF;simp only[amr]
 repeat' split
 all_goals rfl
theorem zo2(c:Int):Hw c=some (decide (1<=c/\c<=6)):=by
 unfold Hw Zy;rw[Y8,zc];congr 1;by_cases h1:c=1
 ·subst h1;rfl
 by_cases h2:c=2
 ·subst h2;rfl
 by_cases h3:c=3
 ·subst h3;rfl
 by_cases h4:c=4
 ·subst h4;rfl
 by_cases h5:c=5
 ·subst h5;rfl
 by_cases h6:c=6
 ·subst h6;rfl
 rw[if_neg h1,if_neg h2,if_neg h3,if_neg h4,if_neg h5,if_neg h6,zF (p:=1<=c/\c<=6) (by omega)];rfl
theorem LD:yH 2=some 99:=by kernel_rfl
theorem LF:yH 3=some 999:=by kernel_rfl
def fZ(s:Spec):Int:=
 if s.1<2\/128<s.1 then 1 else if s.2.1<1\/6<s.2.1 then 6 else if s.2.2.1<1\/3<s.2.2.1 then 3
 else if s.2.2.2.1<1\/s.2.2.2.2.1<s.2.2.2.1\/(s.2.2.1=2/\99<s.2.2.2.2.1)\/999<s.2.2.2.2.1\/(s.2.2.1=1/\¬s.2.2.2.1=s.2.2.2.2.1) then 5
 else if s.2.2.1=1/\s.2.1=6 then 13 else 0
theorem SL(s:Spec):tQ s=some (fZ s):=by
 obtain⟨no,c,f,mn,mx,u⟩:=s;unfold tQ Yh fZ;simp only[zo2,zc];by_cases h1:no<2\/128<no
 ·rw[if_pos h1];rcases h1 with h|h
  ·rw[zT h];rfl
  ·rw[zT h];cases decide (no<2)<;>rfl
 rw[if_neg h1,zF (by omega),zF (by omega)];by_cases h2:c<1\/6<c
 ·rw[if_pos h2,zF (p:=1<=c/\c<=6) (by omega)];rfl
 rw[if_neg h2,zT (p:=1<=c/\c<=6) (by omega)];simp only[zD,ai];by_cases h3:f<1\/3<f
 ·rw[if_pos h3];rcases h3 with h|h
  ·rw[zT h];rfl
  ·rw[zT h];cases decide (f<1)<;>rfl
 rw[if_neg h3,zF (by omega),zF (by omega)];simp only[zD];by_cases h4:mn<1\/mx<mn\/999<mx
 ·rw[if_pos (by omega)];by_cases a:mn<1
  ·rw[zT a];rfl
  rw[zF a];by_cases b:mx<mn
  ·rw[zT b];rfl
  rw[zF b,zT (by omega)];rfl
 rw[zF (by omega),zF (by omega),zF (by omega)];simp only[zD];by_cases f1:f=1
 ·rw[zT f1];simp only[zC,ai,zD];by_cases e:mn=mx
  ·rw[zT e,if_neg (by omega)];by_cases e6:c=6
   ·rw[zT e6,if_pos (by omega)];rfl
   ·rw[zF e6,if_neg (by omega)];rfl
  ·rw[zF e,if_pos (by omega)];rfl
 ·rw[zF f1];simp only[zD,aV,zC];by_cases f2:f=2
  ·subst f2;rw[LD,zc];by_cases h:99<mx
   ·rw[zT h,if_pos (by omega)];rfl
   ·rw[zF h,if_neg (by omega),if_neg (by omega)];rfl
  ·have f3:f=3:=by omega
   subst f3;rw[LF,zc,zF (by omega),if_neg (by omega),if_neg (by omega)];rfl
theorem CS(s:Spec):Fv s=some (fZ s):=by
 obtain⟨no,c,f,mn,mx,u⟩:=s;unfold Fv zsz fZ;simp only;by_cases h1:no<2\/128<no
 ·rw[if_pos h1];rcases h1 with h|h
  ·rw[zT h];rfl
  ·rw[zT h];cases decide (no<2)<;>rfl
 rw[if_neg h1,zF (by omega),zF (by omega)];by_cases h2:c<1\/6<c
 ·rw[if_pos h2];rcases h2 with h|h
  ·rw[zT h];rfl
  ·rw[zT h];cases decide (c<1)<;>rfl
 rw[if_neg h2,zF (by omega),zF (by omega)];by_cases h3:f<1\/3<f
 ·rw[if_pos h3];rcases h3 with h|h
  ·rw[zT h];rfl
  ·rw[zT h];cases decide (f<1)<;>rfl
 rw[if_neg h3,zF (by omega),zF (by omega)];simp only[zD];by_cases f1:f=1
 ·rw[zT f1,zF (by omega:¬f=2)];simp only[zC,zD];by_cases a:mn<1
  ·rw[zT a,if_pos (by omega)];rfl
  rw[zF a];by_cases b:mx<mn
  ·rw[zT b,if_pos (by omega)];rfl
  rw[zF b];by_cases d:999<mx
  ·rw[zT d,if_pos (by omega)];rfl
  rw[zF d];by_cases e:mn=mx
  ·rw[zT e,if_neg (by omega)];by_cases e6:c=6
   ·rw[zT e6,if_pos (by omega)];rfl
   ·rw[zF e6,if_neg (by omega)];rfl
  ·rw[zF e,if_pos (by omega)];rfl
 ·rw[zF f1];simp only[zD];by_cases f2:f=2
  ·rw[zT f2];simp only[zC];by_cases a:mn<1
   ·rw[zT a,if_pos (by omega)];rfl
   rw[zF a];by_cases b:mx<mn
   ·rw[zT b,if_pos (by omega)];rfl
   rw[zF b];by_cases d:99<mx
   ·rw[zT d,if_pos (by omega)];rfl
   rw[zF d,if_neg (by omega),if_neg (by omega)];rfl
  ·rw[zF f2];simp only[zD];by_cases a:mn<1
   ·rw[zT a,if_pos (by omega)];rfl
   rw[zF a];by_cases b:mx<mn
   ·rw[zT b,if_pos (by omega)];rfl
   rw[zF b];by_cases d:999<mx
   ·rw[zT d,if_pos (by omega)];rfl
   rw[zF d,if_neg (by omega),if_neg (by omega)];rfl
def pG:List Spec->Int->Int->Int×Int
 | [],_,_=>(0,0)
 |x::r,i,last=>if fZ x≠0 then(fZ x,i) else if x.1<=last then(11,i) else pG r (i+1) x.1
def pF(s:zf):Int×Int:=
 if¬(s.1=1\/s.1=2) then(1,-1) else if s.2.1<0\/9<s.2.1 then(7,-1) else pG s.2.2.1 0 0
theorem Wi{x:Spec}(h:fZ x=0):2<=x.1/\x.1<=128:=by
 unfold fZ at h;split at h
 ·cases h
 ·omega
def aah(e:Sum (Int×Int) Unit):ae (Int×Int):=aA (λwe=>some (we.1,we.2)) (λ_=>some (0,0)) e
theorem O8(l:List Spec):∀(i:Int) (last:Int),aah (if(pG l i last).1=0 then .inr () else .inl (pG l i last))=some (pG l i last):=by
 intro i last;by_cases h:(pG l i last).1=0
 ·rw[if_pos h];have:pG l i last=(0,0):=by
   induction l generalizing i last with
   |nil=>rfl
   |cons x r ih=>
    unfold pG at h⊢;split
    ·rename_i h1;rw[if_pos h1] at h;exact absurd h h1
    ·rename_i h1;rw[if_neg h1] at h;split
     ·rename_i h2;rw[if_pos h2] at h;cases h
     ·rename_i h2;rw[if_neg h2] at h;exact ih _ _ h
  rw[this];rfl
 ·rw[if_neg h];rfl
theorem acs(s:zf)(hl:s.2.2.1.length<=maxLen):EY bE 0 0 s=some (if(pG s.2.2.1 0 0).1=0 then .inr () else .inl (pG s.2.2.1 0 0)):=by
 have h:=yh lu s.2.2.1 hl (λi x (last:Int) K=>if fZ x≠0 then some (.inl (fZ x,i)) else if x.1<=last then some (.inl (11,i)) else K x.1) (λ_=>some (.inr ())) (λk i last=>EY k last i s)
  (λk i last h0 h1=>by
    rw[EY,Uu,zT h1];simp only[zC,zm h0 h1,CS,zc];by_cases hc:fZ (s.2.2.1.getD i.toNat lu)=0
    ·rw[zT hc,if_neg (λh=>h hc)];simp only[ai,zD];by_cases hn:(s.2.2.1.getD i.toNat lu).1<=last
     ·rw[zT hn,if_pos hn];rfl
     ·rw[zF hn,if_neg hn];rfl
    ·rw[zF hc,if_pos hc];rfl)
  (λk last=>by rw[EY,Uu,zF (by omega)];rfl) 0
 rw[h];clear h hl;generalize s.2.2.1=l
 suffices∀(i last:Int),fa (λi (x:Spec) (last:Int) K=>if fZ x≠0 then some (Sum.inl (fZ x,i)) else if x.1<=last then some (.inl (11,i)) else K x.1) (λ_=>some (.inr ())) l i last=some (if(pG l i last).1=0 then(.inr ():Sum (Int×Int) Unit) else .inl (pG l i last)) from this 0 0
 induction l with
 |nil=>intro i last;rfl
 |cons x r ih=>
  intro i last;rw[fa,pG];by_cases hc:fZ x≠0
  ·rw[if_pos hc,if_pos hc,if_neg hc]
  ·rw[if_neg hc,if_neg hc];by_cases hn:x.1<=last
   ·rw[if_pos hn,if_pos hn];rfl
   ·rw[if_neg hn,if_neg hn];exact ih _ _
theorem adk(s:zf)(hl:s.2.2.1.length<=maxLen):Mc s=some (pF s):=by
 unfold Mc Lw pF;have hx:=O8 s.2.2.1 0 0;have BO:(EY bE 0 0 s).bind (λe=>aA (λ(we:Int×Int)=>zt1 we.1 we.2 λa0 a1=>some (a0,a1)) (λ(we:Unit)=>zt2 λa0 a1=>some (a0,a1)) e)=some (pG s.2.2.1 0 0):=by rw[acs s hl,zc];exact hx
 dsimp only;rw[BO];by_cases h1:s.1=1
 ·rw[zT h1,if_neg (by omega)];by_cases h2:s.2.1<0
  ·rw[zT h2,if_pos (.inl h2)];rfl
  ·rw[zF h2];by_cases h3:9<s.2.1
   ·rw[zT h3,if_pos (.inr h3)];rfl
   ·rw[zF h3,if_neg (by omega)];rfl
 ·rw[zF h1];by_cases h0:s.1=2
  ·rw[zT h0,if_neg (by omega)];by_cases h2:s.2.1<0
   ·rw[zT h2,if_pos (.inl h2)];rfl
   ·rw[zF h2];by_cases h3:9<s.2.1
    ·rw[zT h3,if_pos (.inr h3)];rfl
    ·rw[zF h3,if_neg (by omega)];rfl
  ·rw[zF h0,if_pos (by omega)];rfl
theorem agN{l:List Spec}{j:Nat}(h:j<l.length):l.getD ((j:Int)).toNat ((0:Int),(0:Int),(0:Int),(0:Int),(0:Int),())=l[j]:=by rw[aw,aq,au h];rfl
theorem po(s:zf)(hl:s.2.2.1.length<=9223372036854775807):∀(m j k:Nat) (last:Int),j+m=s.2.2.1.length->m<k->(j=0->last=0)->(∀h:0<j,last=(s.2.2.1.getD (j-1) lu).1)->
 Hd k s.2.2.1 (s.2.2.1.length:Int) j s=some (if(pG (s.2.2.1.drop j) j last).1=0 then .inr () else .inl (pG (s.2.2.1.drop j) j last)):=by
 intro m
 induction m with
 |zero=>
  intro j k last hj hk h0 h1;obtain⟨k,rfl⟩:∃k',k=k'+1:=⟨k-1,by omega⟩
  rw[Hd,TN,zF (by omega),aP (by omega)];rfl
 |succ m ih=>
  intro j k last hj hk h0 h1;obtain⟨k,rfl⟩:∃k',k=k'+1:=⟨k-1,by omega⟩
  have bS:j<s.2.2.1.length:=by omega
  have ihj:=ih (j+1) k (s.2.2.1[j]).1 (by omega) (by omega) (by omega) (λ_=>by rw[Nat.add_sub_cancel,aq,au bS];rfl)
  rw[Hd,TN,zT (by omega),zC,zi bS,agN bS,SL,zc,zu (by omega),aM bS];rw[show((j+1:Nat):Int)=(j:Int)+1 from rfl] at ihj⊢;by_cases hc:fZ s.2.2.1[j]=0
  ·rw[zT hc];simp only[ai,zD];have vO:=Wi hc;by_cases hz:j=0
   ·have vf:=h0 hz;have e:pG (s.2.2.1[j]::s.2.2.1.drop (j+1)) j last=pG (s.2.2.1.drop (j+1)) ((j:Int)+1) (s.2.2.1[j]).1:=by rw[pG,if_neg (λh=>h hc),if_neg (by omega)]
    rw[zF (by omega),zD,e];exact ihj
   ·have vf:=h1 (by omega);have hi:zW zI ((j:Int)-1)=((j-1:Nat):Int):=by rw[zk (by omega) (by omega)];omega
    rw[zT (by omega),zC,hi,zi (by omega),aw];by_cases hn:(s.2.2.1[j]).1<=last
    ·have e:pG (s.2.2.1[j]::s.2.2.1.drop (j+1)) j last=(11,(j:Int)):=by rw[pG,if_neg (λh=>h hc),if_pos hn]
     rw[e,zT (by rw[<-vf];exact hn)];rfl
    ·have e:pG (s.2.2.1[j]::s.2.2.1.drop (j+1)) j last=pG (s.2.2.1.drop (j+1)) ((j:Int)+1) (s.2.2.1[j]).1:=by rw[pG,if_neg (λh=>h hc),if_neg hn]
     rw[e,zF (by rw[<-vf];exact hn)];exact ihj
  ·have e:pG (s.2.2.1[j]::s.2.2.1.drop (j+1)) j last=(fZ s.2.2.1[j],(j:Int)):=by rw[pG,if_pos hc]
   rw[zF hc,e,if_neg hc];rfl
theorem S7(s:zf)(hl:s.2.2.1.length<=maxLen):uK s=some (pF s):=by
 rw[zh] at hl;unfold uK Lb pF;have hx:=O8 s.2.2.1 0 0;have NF:=po s hl s.2.2.1.length 0 bE 0 (by omega) (by rw[zr];omega) (λ_=>rfl) (λh=>absurd h (by omega));rw[aO,show((0:Nat):Int)=0 from rfl] at NF;have BO:(Hd bE s.2.2.1 (s.2.2.1.length:Int) 0 s).bind (λe=>aA (λ(we:Int×Int)=>X5 we.1 we.2 λa0 a1=>some (a0,a1)) (λ(we:Unit)=>X6 λa0 a1=>some (a0,a1)) e)=some (pG s.2.2.1 0 0):=by rw[NF,zc];exact hx
 dsimp only;rw[BO];by_cases h1:s.1=1
 ·rw[zT h1,if_neg (by omega)];by_cases h2:s.2.1<0
  ·rw[zT h2,if_pos (.inl h2)];rfl
  ·rw[zF h2];by_cases h3:9<s.2.1
   ·rw[zT h3,if_pos (.inr h3)];rfl
   ·rw[zF h3,if_neg (by omega)];rfl
 ·rw[zF h1];by_cases h0:s.1=2
  ·rw[zT h0,if_neg (by omega)];by_cases h2:s.2.1<0
   ·rw[zT h2,if_pos (.inl h2)];rfl
   ·rw[zF h2];by_cases h3:9<s.2.1
    ·rw[zT h3,if_pos (.inr h3)];rfl
    ·rw[zF h3,if_neg (by omega)];rfl
  ·rw[zF h0,if_pos (by omega)];rfl
def oq(l:List Spec)(no:Int):ae Spec:=l.find? λx=>decide (x.1=no)
def nA:List Spec->Int->Int->Int
 | [],_,_=> -1
 |x::r,no,i=>if x.1=no then i else nA r no (i+1)
theorem ak2(s:zf)(no:Int)(hl:s.2.2.1.length<=maxLen):oc s no=some (match oq s.2.2.1 no with|some x=>(x,true)|none=>(lu,false)):=by
 unfold oc X8 oq;dsimp only;have h:=jz lu s.2.2.1 hl (λi x (_:Unit) K=>bif decide (x.1=no) then some (Sum.inl (true,x)) else K ()) (λ_=>some (.inr lu)) (λk i _=>TO k no s.2.2.1 (s.2.2.1.length:Int) i lu) (λk i _=>rfl) ();rw[h,];clear h hl;generalize(0:Int)=i;generalize s.2.2.1=l
 induction l generalizing i with
 |nil=>rfl
 |cons x r ih=>
  rw[fa,eJ];cases hx:decide (x.1=no) with
  |true=>rfl
  |false=>exact ih (i+1)
theorem adZ(l:List Spec)(no:Int):∀i:Int,0<=i->(nA l no i= -1/\oq l no=none)\/(i<=nA l no i/\nA l no i<i+l.length/\∃x,oq l no=some x/\l.getD (nA l no i-i).toNat lu=x):=by
 induction l with
 |nil=>intro i hi;left;exact⟨rfl,rfl⟩
 |cons x r ih=>
  intro i hi;unfold nA oq;by_cases h:x.1=no
  ·right;rw[if_pos h,eJ,zT h];refine⟨by omega,by simp;omega,x,rfl,by simp⟩
  ·rw[if_neg h,eJ,zF h];rcases ih (i+1) (by omega) with⟨h1,h2⟩|⟨h1,h2,y,h3,h4⟩
   ·left;exact⟨h1,h2⟩
   ·right;refine⟨by omega,by simp;omega,y,h3,?_⟩;have:(nA r no (i+1)-i).toNat=(nA r no (i+1)-(i+1)).toNat+1:=by omega
    rw[this];simpa using h4
theorem VK(s:zf)(no:Int)(hl:s.2.2.1.length<=maxLen):Fw s no=some (nA s.2.2.1 no 0):=by
 unfold Fw zt4;dsimp only;have h:=jz lu s.2.2.1 hl (λi x (_:Unit) K=>bif decide (x.1=no) then some (Sum.inl i) else K ()) (λ_=>some (.inr ())) (λk i _=>Uv k no i s) (λk i _=>rfl) ();rw[h];clear h hl;generalize(0:Int)=i;generalize s.2.2.1=l
 induction l generalizing i with
 |nil=>rfl
 |cons x r ih=>
  rw[fa,nA];by_cases hx:x.1=no
  ·rw[zT hx,if_pos hx];rfl
  ·rw[zF hx,if_neg hx];exact ih (i+1)
theorem Pj(n:Int):hP 0 0 n=false:=by unfold hP;simp
theorem aeg{a b:zf}:a=b↔a.1=b.1/\a.2.1=b.2.1/\a.2.2.1=b.2.2.1:=by obtain⟨x,y,z,u⟩:=a;obtain⟨x',y',z',u'⟩:=b;simp
instance:DecidableEq zf:=λa b=>decidable_of_iff _ aeg.symm
def K4(l:List Spec)(last:Int):Prop:=(∀x∈l,fZ x=0)/\(l.Pairwise λx y=>x.1<y.1)/\∀x∈l,last<x.1
theorem ahu(l:List Spec):∀(i last:Int),(pG l i last).1=0↔K4 l last:=by
 induction l with
 |nil=>intro i last;simp [pG,K4]
 |cons x r ih=>
  intro i last;unfold pG;by_cases hc:fZ x=0
  ·rw[if_neg (λh=>h hc)];by_cases hn:x.1<=last
   ·rw[if_pos hn];constructor
    ·intro h;cases h
    ·intro⟨_,_,h3⟩;have:=h3 x (by simp);omega
   ·rw[if_neg hn,ih];constructor
    ·intro⟨h1,h2,h3⟩;refine⟨λy hy=> ?_,bF.2 ⟨h3,h2⟩,λy hy=> ?_⟩
     ·rcases aH.1 hy with rfl|hy
      ·exact hc
      ·exact h1 y hy
     ·rcases aH.1 hy with rfl|hy
      ·omega
      ·have:=h3 y hy;omega
    ·intro⟨h1,h2,h3⟩;obtain⟨h4,h5⟩:=bF.1 h2;exact⟨λy hy=>h1 y (by simp [hy]),h5,h4⟩
  ·rw[if_pos hc];constructor
   ·intro h;exact absurd h hc
   ·intro⟨h1,_,_⟩;exact absurd (h1 x (by simp)) hc
def qd(s:zf):Prop:=(s.1=1\/s.1=2)/\0<=s.2.1/\s.2.1<=9/\K4 s.2.2.1 0
theorem G4(s:zf):(pF s).1=0↔qd s:=by
 unfold pF qd;by_cases h1:s.1=1\/s.1=2
 ·rw[if_neg (λh=>h h1)];by_cases h2:s.2.1<0\/9<s.2.1
  ·rw[if_pos h2];constructor
   ·intro h;cases h
   ·intro⟨_,a,b,_⟩;omega
  ·rw[if_neg h2,ahu];constructor
   ·intro h;exact⟨h1,by omega,by omega,h⟩
   ·intro⟨_,_,_,h⟩;exact h
 ·rw[if_pos h1];constructor
  ·intro h;cases h
  ·intro⟨a,_⟩;exact absurd a h1
theorem K4.filter{l:List Spec}{last:Int}(h:K4 l last)(p:Spec->Bool):K4 (l.filter p) last:=
 ⟨λx hx=>h.1 x (bc.1 hx).1,h.2.1.filter p,λx hx=>h.2.2 x (bc.1 hx).1⟩
theorem zcv(s:zf)(hl:s.2.2.1.length<=maxLen):wg s=some (decide ((pF s).1=0)):=by unfold wg Wl;rw[adk s hl,zc]
abbrev fe:=af×af×Unit
def qI:fe:=(bs [],bs [],())
instance aaQ (a:af) (l:List af):Decidable (a∈l):=decidable_of_iff (l.any (λx=>decide (a=x))=true) (by rw[ke];exact⟨λ⟨x,hx,h⟩=>of_decide_eq_true h▸hx,λh=>⟨a,h,zT rfl⟩⟩)
def HG(r:Int):Sum Int Unit:=if r= -1 then .inr () else .inl r
theorem zz9(j:Nat):HG (j:Int)= .inl (j:Int):=if_neg (by omega)
def mD{K:Type}(l:List K):List (K×Bool):=l.map λk=>(k,true)
theorem VW{K:Type}[DecidableEq K](eq:K->K->Bool)(heq:∀x y,eq x y=decide (x=y))(k:K):∀l:List K,nB eq false (mD l) k=true↔k∈l
 | []=>by simp [mD,nB]
 |x::l=>by
  simp only[mD,bq,nB,heq];by_cases h:k=x
  ·rw[zT h,zC];exact⟨λ_=>by rw[h];exact aW,λ_=>rfl⟩
  ·rw[zF h,zD];have:=VW eq heq k l;simp only[mD] at this;rw[this];exact⟨λh'=>aG _ h',λh'=>(aH.1 h').resolve_left h⟩
theorem VX{K:Type}[DecidableEq K](eq:K->K->Bool)(heq:∀x y,eq x y=decide (x=y))(k:K):∀l:List K,nC eq (mD l) k=true↔k∈l
 | []=>by simp [mD,nC]
 |x::l=>by
  simp only[mD,bq,nC,heq];by_cases h:k=x
  ·rw[zT h,zC];exact⟨λ_=>by rw[h];exact aW,λ_=>rfl⟩
  ·rw[zF h,zD];have:=VX eq heq k l;simp only[mD] at this;rw[this];exact⟨λh'=>aG _ h',λh'=>(aH.1 h').resolve_left h⟩
theorem JC{b:Bool}{p:Prop}(h:b=true↔p)(hp:¬p):b=false:=by cases b with
 |false=>rfl
 |true=>exact absurd (h.1 rfl) hp
theorem z9l{K:Type}(l:List K)(k:K):mD l++ [(k,true)]=mD (l++ [k]):=by simp [mD]
def qW:List af->List fe->Int->ae Int
 |_,[],_=>none
 |seen,p::r,i=>if p.1∈seen then some i else qW (seen++ [p.1]) r (i+1)
def C9(l:List fe):Int×Int:=if 256<l.length then(5,256) else match qW [] l 0 with
 |some i=>(10,i)
 |none=>(0,0)
def D1(o:ae Int):ae (Sum (Int×Int) Unit):=some (match o with
 |some i=> .inl (10,i)
 |none=> .inr ())
theorem zz5(l:List fe):∀(i:Int) (seen:List af),
 fa (λi (x:fe) (s:List qT) K=>bif nB (oo .str) false s x.1 then some (Sum.inl ((10:Int),i)) else bif nC (oo .str) s x.1 then none else K (s++ [(x.1,true)])) (λ_=>some (Sum.inr ())) l i (mD seen)=D1 (qW seen l i):=by
 induction l with
 |nil=>intro i seen;rfl
 |cons p r ih=>
  intro i seen;simp only[fa,qW];have e1:=VW (oo .str) (λ_ _=>rfl) p.1 seen;have e2:=VX (oo .str) (λ_ _=>rfl) p.1 seen;by_cases h:p.1∈seen
  ·rw[e1.2 h,if_pos h];rfl
  ·rw[JC e1 h,JC e2 h,if_neg h,zD,zD,z9l];exact ih (i+1) (seen++ [p.1])
theorem z124(l:List fe)(h:l.length<=maxLen):LO l=some (C9 l):=by
 unfold LO ZM C9;dsimp only;by_cases hl:256<l.length
 ·rw[zT (by omega),zC,if_pos hl]
 ·rw[zF (by omega),zD,if_neg hl];have:=jz qI l h (λi (x:fe) (s:List qT) K=>bif nB (oo .str) false s x.1 then some (Sum.inl ((10:Int),i)) else bif nC (oo .str) s x.1 then none else K (s++ [(x.1,true)])) (λ_=>some (Sum.inr ()))
   (λk i s=>Uf k l (l.length:Int) i s) (λk i s=>rfl) []
  rw[this];have h2:=zz5 l 0 [];rw[show mD ([]:List af)=[] from rfl] at h2;rw[h2];unfold D1;cases qW [] l 0<;>rfl
def pC:List fe->af->Int->Int
 | [],_,_=> -1
 |p::r,f,i=>if p.1=f then i else pC r f (i+1)
theorem znc(l:List fe)(hl:l.length<=9223372036854775807)(n:Nat)(hn:n<=l.length)(f:af):∀(m j k:Nat),j+m=n->m<k->JL k l (n:Int) f (j:Int)=some (HG (pC ((l.take n).drop j) f j))
 |m,j,0,_,hk=>by omega
 |0,j,k+1,hj,hk=>by
  have:j=n:=by omega
  subst this;unfold JL Tk;rw[zF (by omega),aP (by rw[aU];omega)];rfl
 |m+1,j,k+1,hj,hk=>by
  have bS:j<l.length:=by omega
  unfold JL Tk;rw[zT (by omega),zC,zi bS,aw];have hd:(l.take n).drop j=l[j]::(l.take n).drop (j+1):=by rw[aM (by simp;omega)];congr 1;rw[jM]
  have hg:∀d,l.getD j d=l[j]:=λd=>by rw[aq,au bS];rfl
  rw[hd];simp only[hg,pC];by_cases h:l[j].1=f
  ·rw[zT h,if_pos h,zz9];rfl
  ·rw[zF h,if_neg h,zD,zu (by omega),znc l hl n hn f m (j+1) k (by omega) (by omega)];rfl
theorem Pc(l:List fe)(hl:l.length<=maxLen)(n:Nat)(hn:n<=l.length)(f:af):yB l (n:Int) f=some (pC (l.take n) f 0):=by
 rw[zh] at hl;unfold yB zip;dsimp only;have:=znc l hl n hn f n 0 bE (by omega) (by rw[zr];omega);rw[show((0:Nat):Int)=(0:Int) from rfl,aO] at this;rw[this,ap];unfold HG;by_cases h:pC (l.take n) f 0= -1
 ·rw[if_pos h,h];rfl
 ·rw[if_neg h];rfl
theorem Po(f:af):∀(l:List fe) (i:Int),0<=i->(0<=pC l f i↔f∈l.map λp=>p.1)
 | [],i,_=>by simp [pC]
 |p::r,i,hi=>by
  simp only[pC,bq,aH];by_cases h:p.1=f
  ·rw[if_pos h];exact⟨λ_=> .inl h.symm,λ_=>hi⟩
  ·rw[if_neg h,Po f r (i+1) (by omega)];exact⟨.inr,λh'=>h'.resolve_left (λe=>h e.symm)⟩
theorem zh5(l:List fe)(hl:l.length<=256):∀(m j k:Nat),j+m=l.length->m<k->JK k l (j:Int)=D1 (qW ((l.take j).map λp=>p.1) (l.drop j) j)
 |m,j,0,_,hk=>by omega
 |0,j,k+1,hj,hk=>by unfold JK Tj;rw[zF (by omega),aP (by omega)];rfl
 |m+1,j,k+1,hj,hk=>by
  have bS:j<l.length:=by omega
  unfold JK Tj;have hg:∀d,l.getD j d=l[j]:=λd=>by rw[aq,au bS];rfl
  rw[zT (by omega),zC,zi bS,aw,hg,Pc l (by rw[zh];omega) j (by omega),ap,aM bS];simp only[qW];have hm:=Po l[j].1 (l.take j) 0 (dw _);by_cases h:l[j].1∈(l.take j).map λp=>p.1
  ·rw[zT (hm.2 h),if_pos h];rfl
  ·rw[zF (λh'=>h (hm.1 h')),if_neg h,zD,zu (by omega),zh5 l hl m (j+1) k (by omega) (by omega)];congr 2;rw[jO,au bS,cz];rfl
theorem adl(l:List fe)(h:l.length<=maxLen):AL l=some (C9 l):=by
 unfold AL Ws C9;dsimp only;by_cases hl:256<l.length
 ·rw[zT (by omega),zC,if_pos hl]
 ·rw[zF (by omega),zD,if_neg hl];have:=zh5 l (by omega) l.length 0 bE (by omega) (by rw[zr];omega);rw[show((0:Nat):Int)=(0:Int) from rfl,cX,aO] at this;rw[this];unfold D1;simp only[List.map_nil];cases qW [] l 0<;>rfl
def zw(l:List fe)(f:af):af×Bool:=match l.find? λp=>decide (p.1=f) with
 |some p=>(p.2.1,true)
 |none=>(bs [],false)
theorem zca(f:af)(l:List fe):∀(i:Int),fa (λi (x:fe) (s:Unit) K=>bif decide (x.1=f) then some (Sum.inl (x.2.1,true)) else K s) (λ_=>some (Sum.inr ())) l i ()=some (match l.find? λp=>decide (p.1=f) with
 |some p=> .inl (p.2.1,true)
 |none=> .inr ()):=by
 induction l with
 |nil=>intro i;rfl
 |cons p r ih=>
  intro i;simp only[fa,eJ];by_cases h:p.1=f
  ·rw[zT h];rfl
  ·rw[zF h,zD];exact ih (i+1)
theorem ab6(l:List fe)(f:af)(h:l.length<=maxLen):LN l f=some (zw l f):=by
 unfold LN ZJ zw;dsimp only;have:=jz qI l h (λi (x:fe) (s:Unit) K=>bif decide (x.1=f) then some (Sum.inl (x.2.1,true)) else K s) (λ_=>some (Sum.inr ()))
  (λk i s=>Ue k f l (l.length:Int) i) (λk i s=>rfl) ()
 rw[this,zca];cases l.find? λp=>decide (p.1=f)<;>rfl
theorem Pn(f:af):∀(l:List fe) (i:Int),0<=i->(pC l f i= -1/\l.find? (λp=>decide (p.1=f))=none)\/(i<=pC l f i/\pC l f i<i+l.length/\∃p,l.find? (λp=>decide (p.1=f))=some p/\∀d,l.getD (pC l f i-i).toNat d=p)
 | [],i,_=> .inl ⟨rfl,rfl⟩
 |p::r,i,hi=>by
  simp only[pC,eJ,aF];by_cases h:p.1=f
  ·rw[if_pos h,zT h];exact .inr ⟨dw _,by omega,p,rfl,λd=>by simp⟩
  ·rw[if_neg h,zF h];rcases Pn f r (i+1) (by omega) with⟨h1,h2⟩|⟨h1,h2,q,h3,h4⟩
   ·exact .inl ⟨h1,h2⟩
   ·refine .inr ⟨by omega,by omega,q,h3,λd=> ?_⟩;have:=h4 d;rw[show(pC r f (i+1)-i).toNat=(pC r f (i+1)-(i+1)).toNat+1 by omega,ln];exact this
theorem adj(l:List fe)(f:af)(h:l.length<=maxLen):AK l f=some (zw l f):=by
 unfold AK Wq zw;dsimp only;rw[Pc l h l.length (bg _),cC,ap];rcases Pn f l 0 (dw _) with⟨h1,h2⟩|⟨h1,h2,p,h3,h4⟩
 ·rw[h1,h2];rfl
 ·rw[zF (by omega),zD,zm h1 (by omega),h3];have:=h4 ((bs []),(bs []),());rw[Int.sub_zero] at this;rw[this]
def su(l:List fe):List fe:=l.map λp=>(p.2.1,p.1,())
theorem ahE(l:List fe):(su l).length=l.length:=by simp [su]
def bij(l:List fe):Bool:=decide ((C9 l).1=0/\(C9 (su l)).1=0)
def rA(c b:Int):Bool:=
 if c=1 then decide (48<=b/\b<=57)
 else if c=2 then decide (65<=b/\b<=90\/97<=b/\b<=122)
 else if c=3 then decide (48<=b/\b<=57\/65<=b/\b<=90\/97<=b/\b<=122)
 else if c=4 then decide (32<=b/\b<=126)
 else decide (c=5\/c=6)
def p8(c:Int):Int:=if c=1 then 1 else if c=2 then 2 else if c=3 then 3 else if c=4 then 7 else if c=5 then 15 else if c=6 then 15 else 0
theorem aoa:∀c:Fin 7,∀b:Fin 256,Fm (c.1:Int) (b.1:Int)=some (rA (c.1:Int) (b.1:Int)):=by decide+kernel
theorem SD:∀c:Fin 7,∀b:Fin 256,(Hx (b.1:Int)).map (λr=>decide (dn .and .i64 (p8 (c.1:Int)) r=0))=some (!rA (c.1:Int) (b.1:Int)):=by decide+kernel
theorem OT(c:Int):(∃k:Fin 7,c=(k.1:Int))\/(c≠1/\c≠2/\c≠3/\c≠4/\c≠5/\c≠6):=by
 by_cases h:0<=c/\c<=6
 ·exact .inl ⟨⟨c.toNat,by omega⟩,by simp;omega⟩
 ·exact .inr ⟨by omega,by omega,by omega,by omega,by omega,by omega⟩
theorem uz{b:Int}(h:zn b):∃k:Fin 256,b=(k.1:Int):=by unfold zn at h;exact⟨⟨b.toNat,by omega⟩,by simp;omega⟩
theorem ak5(c:Int){b:Int}(hb:zn b):Fm c b=some (rA c b):=by
 obtain⟨b,rfl⟩:=uz hb;rcases OT c with⟨k,rfl⟩|⟨h1,h2,h3,h4,h5,h6⟩
 ·exact aoa k b
 ·unfold Fm zsq rA;simp only[h1,h2,h3,h4,h5,h6,decide_false,zD,if_false,or_self,Bool.cond_self]
theorem ag9(c:Int){b:Int}(hb:zn b):∃r,Hx b=some r/\decide (dn .and .i64 (p8 c) r=0)= !rA c b:=by
 obtain⟨b,rfl⟩:=uz hb;rcases OT c with⟨k,rfl⟩|⟨h1,h2,h3,h4,h5,h6⟩
 ·have:=SD k b;cases hc:Hx (b.1:Int) with
  |none=>rw[hc] at this;cases this
  |some r=>rw[hc] at this;exact⟨r,rfl,by simpa using this⟩
 ·have:=SD 0 b;cases hc:Hx (b.1:Int) with
  |none=>rw[hc] at this;cases this
  |some r=>
   rw[hc] at this;refine⟨r,rfl,?_⟩;have e1:p8 c=p8 ((0:Fin 7).1:Int):=by unfold p8;simp [h1,h2,h3,h4,h5,h6]
   have e2:rA c (b.1:Int)=rA ((0:Fin 7).1:Int) (b.1:Int):=by unfold rA;simp [h1,h2,h3,h4,h5,h6]
   rw[e1,e2];simpa using this
def yy(c:Int):List Int->Int->Int
 | [],_=> -1
 |b::r,i=>if rA c b=true then yy c r (i+1) else i
theorem znf(c:Int):∀(l:List Int) (i:Int),0<=i->(0<=yy c l i↔¬l.all (rA c)=true)
 | [],i,_=>by simp [yy]
 |b::r,i,hi=>by
  simp only[yy,iG];cases h:rA c b with
  |true=>rw[if_pos rfl,znf c r (i+1) (by omega),dO]
  |false=>simp [hi]
theorem ztm(c:Int)(s:af)(hs:s.size<=9223372036854775807):∀(n j k:Nat),j+n=s.size->n<k->J7 k s (p8 c) (j:Int)=some (HG (yy c ((bl s).drop j) j))
 |n,j,0,_,hk=>by omega
 |0,j,k+1,hj,hk=>by unfold J7 Ud;rw[zF (by omega),aP (by rw[zg];omega)];rfl
 |n+1,j,k+1,hj,hk=>by
  have bS:j<s.size:=by omega
  have hl:j<(bl s).length:=by rw[zg];exact bS
  have hb:zn ((bl s)[j]):=sY (cB hl);have hg:(bl s).getD j 0=(bl s)[j]:=by rw[aq,au hl];rfl
  unfold J7 Ud;rw[zT (by omega),zC,zi bS,aw,uy,hg,aM hl];obtain⟨r,h1,h2⟩:=ag9 c hb;rw[h1,ap,h2];simp only[yy];cases h:rA c (bl s)[j] with
  |true=>rw[if_pos rfl,ai,zD,zu (by omega),ztm c s hs n (j+1) k (by omega) (by omega)];rfl
  |false=>rw[if_neg (by simp),aV,zC,zz9]
theorem ahX(c:Int)(s:af)(h:s.size<=maxLen):LK c s=some (yy c (bl s) 0):=by
 rw[zh] at h;unfold LK Zv;dsimp only;rw[Y8,ap];have:=ztm c s h s.size 0 bE (by omega) (by rw[zr];omega);rw[show((0:Nat):Int)=(0:Int) from rfl,aO] at this;rw[show(if c=1 then 1 else if c=2 then 2 else if c=3 then 3 else if c=4 then 7 else if c=5 then 15 else if c=6 then 15 else 0:Int)=p8 c from rfl,this,ap];unfold HG;by_cases h:yy c (bl s) 0= -1
 ·rw[if_pos h,h];rfl
 ·rw[if_neg h];rfl
theorem zhl(c:Int)(s:af)(hs:s.size<=9223372036854775807):∀(n j k:Nat),j+n=s.size->n<k->Ke k c s (j:Int)=some (HG (yy c ((bl s).drop j) j))
 |n,j,0,_,hk=>by omega
 |0,j,k+1,hj,hk=>by unfold Ke Un;rw[zF (by omega),aP (by rw[zg];omega)];rfl
 |n+1,j,k+1,hj,hk=>by
  have bS:j<s.size:=by omega
  have hl:j<(bl s).length:=by rw[zg];exact bS
  have hb:zn ((bl s)[j]):=sY (cB hl);have hg:(bl s).getD j 0=(bl s)[j]:=by rw[aq,au hl];rfl
  unfold Ke Un;rw[zT (by omega),zC,zi bS,aw,uy,hg,aM hl,ak5 c hb,ap];simp only[yy];cases h:rA c (bl s)[j] with
  |true=>rw[if_pos rfl,ai,zD,zu (by omega),zhl c s hs n (j+1) k (by omega) (by omega)];rfl
  |false=>rw[if_neg (by simp),aV,zC,zz9]
theorem zco(c:Int)(s:af)(h:s.size<=maxLen):L6 c s=some (yy c (bl s) 0):=by
 rw[zh] at h;unfold L6 zsp;dsimp only;have:=zhl c s h s.size 0 bE (by omega) (by rw[zr];omega);rw[show((0:Nat):Int)=(0:Int) from rfl,aO] at this;rw[this,ap];unfold HG;by_cases h:yy c (bl s) 0= -1
 ·rw[if_pos h,h];rfl
 ·rw[if_neg h];rfl
def E7(a b:Int):Bool:=decide (1<=a/\a<=6/\1<=b/\b<=6)&&decide (dn .andNot .i64 (p8 b) (p8 a)=0)
theorem ajy(a b:Int):LL a b=some (E7 a b):=by
 unfold LL Zz E7;rw[zo2,ap];by_cases ha:1<=a/\a<=6
 ·rw[zT ha,zC,zo2,ap];by_cases hb:1<=b/\b<=6
  ·rw[zT hb,zC,Y8,ap,Y8,ap,zT (show 1<=a/\a<=6/\1<=b/\b<=6 from⟨ha.1,ha.2,hb.1,hb.2⟩),dO];rfl
  ·rw[zF hb,zD,zF (λh=>hb h.2.2)];rfl
 ·rw[zF ha,zD,zF (λh=>ha ⟨h.1,h.2.1⟩)];rfl
theorem ahQ:∀a b:Fin 7,Kp (a.1:Int) (b.1:Int)=some (E7 (a.1:Int) (b.1:Int)):=by decide+kernel
theorem ztw{c:Int}(h:1<=c/\c<=6):∃k:Fin 7,c=(k.1:Int):=⟨⟨c.toNat,by omega⟩,by simp;omega⟩
theorem zcw(a b:Int):Kp a b=some (E7 a b):=by
 by_cases h:(1<=a/\a<=6)/\(1<=b/\b<=6)
 ·obtain⟨k,rfl⟩:=ztw h.1;obtain⟨m,rfl⟩:=ztw h.2;exact ahQ k m
 ·unfold Kp zst E7;rw[show decide (1<=a/\a<=6/\1<=b/\b<=6)=false from zF (λh'=>h ⟨⟨h'.1,h'.2.1⟩,h'.2.2⟩),Bool.false_and];by_cases h1:a<1
  ·rw[zT h1];rfl
  ·by_cases h2:(6:Int)<a
   ·rw[zF h1,zT h2];rfl
   ·by_cases h3:b<1
    ·rw[zF h1,zF h2,zT h3];rfl
    ·have h4:(6:Int)<b:=by omega
     rw[zF h1,zF h2,zF h3,zT h4];rfl
theorem Cu(s:af)(i:Nat):zn (ze s i):=by rw[uy];exact S4 (λx hx=>sY hx) i
theorem Pe:∀b:Fin 256,wA (b.1:Int)=some (decide (Fp (b.1:Int)≠some 0)):=by decide+kernel
theorem zdb:∀b:Fin 256,Fp (b.1:Int)=some 0\/(Fp (b.1:Int)=some 1/\decide (dn .and .i64 (b.1:Int) 31=31)=false)\/(Fp (b.1:Int)=some 2/\decide (dn .and .i64 (b.1:Int) 31=31)=true):=by decide+kernel
theorem anZ(x y:Nat)(hx:x<256)(hy:y<256):dn .and .i64 (((x:Int)*256)+(y:Int)) 255=(y:Int):=by
 have:((x:Int)*256+(y:Int))=((x*256+y:Nat):Int):=by omega
 rw[this,show(255:Int)=((255:Nat):Int) from rfl,amp (by omega) (by omega)];congr 1;rw[show(255:Nat)=2^8-1 from rfl,hI];omega
theorem ab3(x y:Nat)(hx:x<256)(hy:y<256):aX ((x:Int)*256+(y:Int)) (2^min ((8:Int)).toNat 64)=(x:Int):=by
 have:((x:Int)*256+(y:Int))=((x*256+y:Nat):Int):=by omega
 rw[this,show(8:Int)=((8:Nat):Int) from rfl,Tc _ 8 (by omega)];congr 1;omega
theorem ahm(x:Fin 256)(hx:Fp (x.1:Int)=some 2)(y:Fin 256):Bj ((x.1:Int)*256+(y.1:Int))=some (decide (1<=(y.1:Int)/\(y.1:Int)<=127)):=by
 have hx0:x.1≠0:=λe=>by have:x=0:=Fin.ext e;subst this;revert hx;decide+kernel
 have HI:decide (dn .and .i64 (x.1:Int) 31=31)=true:=by
  rcases zdb x with h|⟨h,_⟩|⟨_,h⟩
  ·rw[h] at hx;cases hx
  ·rw[h] at hx;cases hx
  ·exact h
 have hf:wA (x.1:Int)=some true:=by rw[Pe x,hx];rfl
 unfold Bj Yy;rw[ab3 x.1 y.1 x.2 y.2,anZ x.1 y.1 x.2 y.2,zF (by have:=x.2;have:=y.2;omega),zD,zT (by have:=x.2;have:=y.2;omega),zC,hf,ap,zC,HI,zC];by_cases h1:(1:Int)<=(y.1:Int)
 ·rw[zT h1,zC];congr 1;exact decide_eq_decide.2 ⟨λh=>⟨h1,h⟩,λh=>h.2⟩
 ·rw[zF h1,zD];congr 1;exact(zF λh=>h1 h.1).symm
theorem ahz(s:af)(hs:s.size<=9223372036854775000)(a:Int):Bi s a=Fq s a:=by
 unfold Bi Yx Fq Up;by_cases h1:a<0
 ·rw[zT h1];rfl
 rw[zF h1,zD,zD];by_cases h2:(s.size:Int)<a
 ·rw[zT h2];rfl
 rw[zF h2,zD,zD];by_cases h3:a=(s.size:Int)
 ·rw[zT h3];rfl
 have wa:∀{R:Type} (x:ae R),zd a s.size x=x:=λx=>zm (by omega) (by omega);rw[zF h3,zD,zD];simp only[wa];obtain⟨x,hx⟩:=uz (Cu s a.toNat);obtain⟨y,hy⟩:=uz (Cu s (zW zI (a+1)).toNat);have Gz:=x.2;have Vb:=y.2;have ob:=zpr (Cu s a.toNat) (Cu s (zW zI (a+1)).toNat);rw[hx,hy] at ob;have w1:zW zI (a+1)=a+1:=zk (by omega) (by omega);have w2:zW zI (x.1:Int)=(x.1:Int):=zk (by omega) (by omega);have w3:zW zI (y.1:Int)=(y.1:Int):=zk (by omega) (by omega);have w4:zW zI ((s.size:Int)-a)=(s.size:Int)-a:=zk (by omega) (by omega);rw[hx,hy,w2,Pe x,ap];rw[w2] at ob;rcases zdb x with h|⟨h,HI⟩|⟨h,HI⟩
 ·rw[h];rfl
 ·rw[h,ap,HI];rfl
 ·rw[h,ap,HI,ob,ahm x h y,ap,w1,w4,w3];by_cases h4:a+1=(s.size:Int)
  ·rw[zT h4,zT (by omega:(s.size:Int)-a<2)];rfl
  ·have w5:zW zI (256*(x.1:Int))=256*(x.1:Int):=zk (by omega) (by omega);have w6:zW zI (256*(x.1:Int)+(y.1:Int))=(x.1:Int)*256+(y.1:Int):=by rw[zk (by omega) (by omega)];omega
   rw[zF h4,zF (by omega:¬(s.size:Int)-a<2),w5,w6];have wb:∀{R:Type} (x:ae R),zd (a+1) s.size x=x:=λx=>zm (by omega) (by omega);simp only[wb];by_cases h5:(y.1:Int)=0
   ·rw[zT h5,zF (by omega:¬(1<=(y.1:Int)/\(y.1:Int)<=127))];rfl
   ·by_cases h6:(127:Int)<(y.1:Int)
    ·rw[zF h5,zT h6,zF (by omega:¬(1<=(y.1:Int)/\(y.1:Int)<=127))];rfl
    ·rw[zF h5,zF h6,zT (by omega:1<=(y.1:Int)/\(y.1:Int)<=127)];rfl
def kl(b:Int):Int:=if 48<=b/\b<=57 then b-48 else if 65<=b/\b<=70 then b-55 else-1
def pQ(d:Int):Int:=if d<10 then 48+d else 55+d
def nW:List Int->List Int
 | []=>[]
 |x::r=>pQ (x/16)::pQ (x % 16)::nW r
def oW:List Int->List Int
 |a::b::r=>(16*kl a+kl b)::oW r
 |_=>[]
def qU:List Int->Int->ae Int
 | [],_=>none
 |a::r,i=>if kl a<0 then some i else qU r (i+1)
def vV(s:af):af×Int×Bool:=match qU (bl s) 0 with
 |some i=>(bs [],i,false)
 |none=>if s.size % 2=1 then(bs [],(s.size:Int),false) else(strOf (oW (bl s)),0,true)
def AD(s:af):af:=strOf (nW (bl s))
abbrev UJ:af:=bs [48,49,50,51,52,53,54,55,56,57,65,66,67,68,69,70]
theorem an3:∀b:Fin 256,AX (b.1:Int)=some (if kl (b.1:Int)<0 then((0:Int),false) else(kl (b.1:Int),true)):=by decide+kernel
theorem ake:∀b:Fin 256,kl (b.1:Int)<16/\(kl (b.1:Int)<0\/0<=kl (b.1:Int)):=by decide+kernel
theorem Y6:∀b:Fin 256,aX (b.1:Int) (2^min ((4:Int)).toNat 8)=((b.1/16:Nat):Int)/\dn .and .u8 (b.1:Int) (15:Int)=((b.1 % 16:Nat):Int)/\zW zU (dj (b.1:Int) (16:Int))=((b.1/16:Nat):Int)/\Int.tmod (b.1:Int) (16:Int)=((b.1 % 16:Nat):Int):=by decide+kernel
theorem RN:∀d:Fin 16,ze UJ d.1=pQ (d.1:Int):=by decide+kernel
theorem akd:∀a b:Fin 16,zW zU (dn .or .i64 (zW zI ((a.1:Int)*2^min ((4:Int)).toNat 64)) (b.1:Int))=16*(a.1:Int)+(b.1:Int)/\zW zU (zW zI (zW zI ((16:Int)*(a.1:Int))+(b.1:Int)))=16*(a.1:Int)+(b.1:Int):=by decide+kernel
theorem aao{x y:Int}(h1:0<=x)(h2:x<16)(h3:0<=y)(h4:y<16):zW zU (dn .or .i64 (zW zI (x*2^min ((4:Int)).toNat 64)) y)=16*x+y/\zW zU (zW zI (zW zI ((16:Int)*x)+y))=16*x+y:=by have:=akd ⟨x.toNat,by omega⟩ ⟨y.toNat,by omega⟩;simpa [cU h1,cU h3] using this
theorem zza{b:Int}(h:zn b):kl b<16:=by obtain⟨k,rfl⟩:=uz h;exact(ake k).1
theorem ajW{b:Int}(h:zn b):AX b=some (if kl b<0 then((0:Int),false) else(kl b,true)):=by obtain⟨k,rfl⟩:=uz h;exact an3 k
theorem P1:UJ.size=16:=by decide
theorem nib{b:Int}(h:zn b):∃k:Fin 256,b=(k.1:Int)/\ze UJ (b.toNat/16)=pQ (b/16)/\ze UJ (b.toNat % 16)=pQ (b % 16):=by obtain⟨k,rfl⟩:=uz h;have h1:=RN ⟨k.1/16,by omega⟩;have h2:=RN ⟨k.1 % 16,by omega⟩;exact⟨k,rfl,by simpa using h1,by simpa using h2⟩
theorem T5{s:af}{j:Nat}(h:j<(bl s).length):ze s j=(bl s)[j]:=by rw[uy,aq,au h];rfl
theorem znk(s:af)(hs:s.size<=1099511627776):∀(n j k:Nat) (o:List Int),j+n=s.size->n<k->o.length+2*n<=35184372088832->JV k s o (j:Int)=some (o++nW ((bl s).drop j))
 |n,j,0,o,_,hk,_=>by omega
 |0,j,k+1,o,hj,hk,_=>by unfold JV TB;rw[zF (by omega),zD,aP (by rw[zg];omega),nW,bY]
 |n+1,j,k+1,o,hj,hk,ho=>by
  have bS:j<s.size:=by omega
  have hl:j<(bl s).length:=by rw[zg];exact bS
  obtain⟨b,hb,n1,n2⟩:=nib (sY (cB hl));have ub:=b.2;unfold JV TB;rw[zT (by omega),zC];simp only[aw,T5 hl,hb,(Y6 b).1,(Y6 b).2.1];rw[zi bS,zi (by rw[P1];omega),zi bS,zi (by rw[P1];omega),zT (by simp only[aF,cL];omega),zC];rw[hb] at n1 n2;simp only[aw] at n1 n2;rw[n1,n2,zu (by omega),znk s hs n (j+1) k _ (by omega) (by omega) (by rw[aJ];simp only[aF,cL];omega),aM hl,hb,nW,bd];rfl
theorem ztt(s:af)(hs:s.size<=1099511627776):rH s=some (AD s):=by unfold rH Xi;rw[zk (by omega) (by omega),zT (by omega),zC,zT (by omega),zC];have:=znk s hs s.size 0 bE [] (by omega) (by rw[zr];omega) (by simp;omega);rw[show((0:Nat):Int)=0 from rfl,aO,b6] at this;dsimp only;rw[this];rfl
def sO:List Int->Nat->List Int->Int->Sum Int (List Int)
 | [],_,o,_=> .inr o
 |a::r,i,o,high=>if kl a<0 then .inl i else if i % 2=0 then sO r (i+1) o (kl a) else sO r (i+1) (o++ [16*high+kl a]) high
theorem z193:∀(l:List Int) (i:Nat) (o:List Int) (high:Int),i % 2=0->sO l i o high=(match qU l i with
 |some q=> .inl q
 |none=> .inr (o++oW l))
 | [],i,o,high,h=>by simp [sO,qU,oW]
 | [a],i,o,high,h=>by
   rw[sO,qU];by_cases ha:kl a<0
   ·rw[if_pos ha,if_pos ha]
   ·rw[if_neg ha,if_neg ha,if_pos h];simp [sO,qU,oW]
 |a::b::r,i,o,high,h=>by
  rw[sO,qU];by_cases ha:kl a<0
  ·rw[if_pos ha,if_pos ha]
  ·rw[if_neg ha,if_neg ha,if_pos h,sO,qU];by_cases hb:kl b<0
   ·rw[if_pos hb,if_pos hb];rfl
   ·rw[if_neg hb,if_neg hb,if_neg (by omega),z193 r (i+1+1) _ _ (by omega),oW,bd];have:((i:Int)+1+1)=((i+1+1:Nat):Int):=by omega
    rw[this];rfl
theorem K2(j:Nat):Int.tmod (j:Int) (2:Int)=((j % 2:Nat):Int):=rfl
theorem zan(s:af)(hs:s.size<=1099511627776):∀(n j k:Nat) (o:List Int) (high:Int),j+n=s.size->n<k->o.length+n<=35184372088832->0<=high/\high<16->∃o',JU k s o high (j:Int)=some (match sO ((bl s).drop j) j o high with
 | .inl i=> .inl (s,bs [],i,false,o')
 | .inr r=> .inr (s,r))
 |n,j,0,o,high,_,hk,_,_=>by omega
 |0,j,k+1,o,high,hj,hk,_,_=>by unfold JU TA;rw[zF (by omega),zD,aP (by rw[zg];omega)];exact⟨o,rfl⟩
 |n+1,j,k+1,o,high,hj,hk,ho,hh=>by
  have bS:j<s.size:=by omega
  have hl:j<(bl s).length:=by rw[zg];exact bS
  have hb:=sY (cB hl);have h16:=zza hb;unfold JU TA;rw[zT (by omega),zC,zi bS,aw,T5 hl,ajW hb,zc,aM hl,sO];by_cases ha:kl (bl s)[j]<0
  ·rw[if_pos ha,if_pos ha];exact⟨o,rfl⟩
  ·rw[if_neg ha,if_neg ha];dsimp only;rw[ai,zD,K2];by_cases hp:j % 2=0
   ·rw[if_pos hp,zT (by omega),zC,zu (by omega)];exact zan s hs n (j+1) k o _ (by omega) (by omega) (by omega) (by omega)
   ·rw[if_neg hp,zF (by omega),zD,zT (by simp only[cj];omega),zC,zu (by omega),(aao hh.1 hh.2 (by omega) h16).1];exact zan s hs n (j+1) k _ high (by omega) (by omega) (by rw[aJ,cj];omega) hh
theorem zts(s:af)(hs:s.size<=1099511627776):pj s=some (vV s):=by
 unfold pj Xf vV;have e:dj (s.size:Int) 2=((s.size/2:Nat):Int):=rfl;rw[e,zk (by omega) (by omega),zT (by omega),zC,zT (by omega),zC];obtain⟨o',h⟩:=zan s hs s.size 0 bE [] 0 (by omega) (by rw[zr];omega) (by simp;omega) (by omega);rw[show((0:Nat):Int)=0 from rfl,aO,z193 _ 0 _ _ rfl,b6,show((0:Nat):Int)=0 from rfl] at h;dsimp only;rw[h,zc];cases qU (bl s) 0 with
 |some i=>rfl
 |none=>
  dsimp only;rw[cc];unfold Xg;dsimp only;rw[K2];by_cases hp:s.size % 2=1
  ·rw[if_pos hp,zF (by omega)];rfl
  ·rw[if_neg hp,zT (by omega)];rfl
theorem af9{l:List Int}:∀{i:Int},qU l i=none->∀a∈l,0<=kl a:=by
 induction l with
 |nil=>intro i _ a ha;cases ha
 |cons b r ih=>
  intro i h a ha;rw[qU] at h;by_cases hb:kl b<0
  ·rw[if_pos hb] at h;cases h
  ·rw[if_neg hb] at h;rcases aH.1 ha with rfl|ha
   ·omega
   ·exact ih h a ha
theorem akg:∀d:Fin 16,kl (pQ (d.1:Int))=(d.1:Int)/\zn (pQ (d.1:Int)):=by
 have:∀d:Fin 16,kl (pQ (d.1:Int))=(d.1:Int)/\0<=pQ (d.1:Int)/\pQ (d.1:Int)<256:=by decide+kernel
 exact this
theorem z196{d:Int}(h:0<=d)(h2:d<16):kl (pQ d)=d/\zn (pQ d):=by have:=akg ⟨d.toNat,by omega⟩;simpa [cU h] using this
theorem Pm:∀{l:List Int},(∀x∈l,zn x)->∀y∈nW l,zn y
 | [],_,y,hy=>by cases hy
 |x::r,h,y,hy=>by
  have hx:=h x aW;unfold zn at hx;rw[nW] at hy;rcases aH.1 hy with rfl|hy
  ·exact(z196 (by omega) (by omega)).2
  ·rcases aH.1 hy with rfl|hy
   ·exact(z196 (by omega) (by omega)).2
   ·exact Pm (λz hz=>h z (aG _ hz)) y hy
theorem Qy:∀l:List Int,(nW l).length=2*l.length
 | []=>rfl
 |x::r=>by rw[nW,aF,aF,Qy r,aF];omega
theorem agP(s:af):bl (AD s)=nW (bl s):=Cy (Pm λx hx=>sY hx)
theorem zao(s:af):(AD s).size=2*s.size:=by rw[<-zg,agP,Qy,zg]
theorem akf:∀b:Fin 256,0<=kl (b.1:Int)->pQ (kl (b.1:Int))=(b.1:Int):=by decide+kernel
theorem Pk{b:Int}(h:zn b)(h0:0<=kl b):pQ (kl b)=b:=by obtain⟨k,rfl⟩:=uz h;exact akf k h0
theorem Gh:∀{l:List Int},l.length % 2=0->(∀x∈l,zn x/\0<=kl x)->nW (oW l)=l/\∀y∈oW l,zn y
 | [],_,_=>⟨by simp [nW,oW],λy hy=>by simp [oW] at hy⟩
 | [a],h,_=>by simp at h
 |a::b::r,h,hx=>by
  obtain⟨a1,a2⟩:=hx a (by simp);obtain⟨b1,b2⟩:=hx b (by simp);have a3:=zza a1;have b3:=zza b1;obtain⟨i1,i2⟩:=Gh (l:=r) (by simp only[aF] at h;omega) λy hy=>hx y (by simp [hy]);rw[oW,nW];refine⟨?_,λy hy=> ?_⟩
  ·rw[show(16*kl a+kl b)/16=kl a by omega,show(16*kl a+kl b)% 16=kl b by omega,Pk a1 a2,Pk b1 b2,i1]
  ·rcases aH.1 hy with rfl|hy
   ·unfold zn;omega
   ·exact i2 y hy
theorem zho{s t:af}{i:Int}(h:vV s=(t,i,true)):AD t=s/\s.size=2*t.size:=by
 unfold vV at h;cases hb:qU (bl s) 0 with
 |some q=>rw[hb] at h;cases h
 |none=>
  rw[hb] at h;dsimp only at h;by_cases hp:s.size % 2=1
  ·rw[if_pos hp] at h;cases h
  ·rw[if_neg hp] at h;have ht:t=strOf (oW (bl s)):=(congrArg Prod.fst h).symm;obtain⟨e1,e2⟩:=Gh (l:=bl s) (by rw[zg];omega) λx hx=>⟨sY hx,af9 hb x hx⟩
   have e3:AD t=s:=by unfold AD;rw[ht,Cy e2,e1,JJ]
   exact⟨e3,by rw[<-e3,zao]⟩
def jQ(b:Int):Bool:=decide (48<=b/\b<=57)
def fg(l:List Int):Bool:=l.all jQ
theorem zgr(b:Int)(l:List Int):fg (b::l)=(jQ b&&fg l):=rfl
theorem amM{b:Int}(h:48<=b/\b<=57):jQ b=true:=zT h
theorem zzc{b:Int}(h:¬(48<=b/\b<=57)):jQ b=false:=zF h
theorem Uw{s:af}{j:Nat}(h:j<s.size):(bl s).getD j 0=((s[j]'h).toNat:Int):=by rw[<-uy];unfold ze;rw[dif_pos h]
theorem YZ{s:af}{j:Nat}(h:j<s.size):(bl s).drop j=((s[j]'h).toNat:Int)::(bl s).drop (j+1):=by
 have h':j<(bl s).length:=by rw[zg];exact h
 rw[aM h'];congr 1;have:=Uw h;rw[aq,au h'] at this;exact this
theorem acU(s:af)(pos:Nat)(h:pos<s.size)(ha:128<=(s[pos]'h).toNat):128<=(dp s pos).1:=by
 have e:s.get! (pos+0)=s[pos]'h:=by show s.get! pos=_;simp [ByteArray.get!,getElem!_pos,h];rfl
 unfold dp;simp only[e];rw[if_neg (by omega)];have U6:128<=Utf8.runeError:=by unfold Utf8.runeError;omega
 split
 ·split
  ·assumption
  ·exact U6
 ·split
  ·split
   ·rename_i hc;simp only[ar,decide_eq_true_eq] at hc;have:=hc.1;simp only;omega
   ·exact U6
  ·split
   ·split
    ·rename_i hc;simp only[ar,decide_eq_true_eq] at hc;have:=hc.1;simp only;omega
    ·exact U6
   ·exact U6
theorem P7(s:af):∀(n j k:Nat),s.size-j<=n->j<=s.size->n<k->Lo k (s,j)=some (bif fg ((bl s).drop j) then .inr () else .inl false)
 |n,j,0,_,_,hk=>by omega
 |n,j,k+1,hn,hj,hk=>by
  unfold Lo Z0;dsimp only;by_cases bS:j<s.size
  ·rw[zT bS,zC,YZ bS,zgr];by_cases h1:(s[j]'bS).toNat<128
   ·rw[decode_ascii s j bS h1];dsimp only;by_cases h2:((s[j]'bS).toNat:Int)<48
    ·rw[zT h2,zC,zzc (by omega)];rfl
    ·rw[zF h2,zD];by_cases h3:(57:Int)<((s[j]'bS).toNat:Int)
     ·rw[zT h3,zC,zzc (by omega)];rfl
     ·obtain⟨n,rfl⟩:∃n',n=n'+1:=⟨n-1,by omega⟩
      rw[zF h3,zD,amM (by omega),dO,P7 s n (j+1) k (by omega) (by omega) (by omega)]
   ·have hd:=acU s j bS (by omega);rw[zF (by omega:¬((dp s j).1:Int)<48),zD,zT (by omega:(57:Int)<((dp s j).1:Int)),zC,zzc (by omega)];rfl
  ·rw[zF bS,zD,aP (by rw[zg];omega)];rfl
theorem Zd(s:af)(h:s.size<=maxLen):Fe s=some (fg (bl s)):=by unfold Fe ZZ;dsimp only;rw[zh] at h;rw[P7 s s.size 0 bE (by omega) (by omega) (by rw[zr];omega),aO];cases fg (bl s)<;>rfl
theorem adp(b:Int):L4 b=some (jQ b):=by
 unfold L4 zsk jQ;by_cases h:(48:Int)<=b
 ·rw[zT h,zC];congr 1;apply decide_eq_decide.2;omega
 ·rw[zF h,zD];congr 1;symm;apply zF;omega
theorem zt6(s:af)(hs:s.size<=9223372036854775807):∀(n j k:Nat),s.size-j<=n->j<=s.size->n<k->Ls k s (j:Int)=some (bif fg ((bl s).drop j) then .inr () else .inl false)
 |n,j,0,_,_,hk=>by omega
 |n,j,k+1,hn,hj,hk=>by
  unfold Ls zsj;dsimp only;by_cases bS:j<s.size
  ·rw[zT (by omega),zC,zi bS,adp,aw,uy,Uw bS,YZ bS,zgr];rw[ap];cases h1:jQ ((s[j]'bS).toNat:Int) with
   |false=>rfl
   |true=>
    obtain⟨n,rfl⟩:∃n',n=n'+1:=⟨n-1,by omega⟩
    simp only[ai,zD,dO];rw[zu (by omega),zt6 s hs n (j+1) k (by omega) (by omega) (by omega)]
  ·rw[zF (by omega),zD,aP (by rw[zg];omega)];rfl
theorem PZ(s:af)(h:s.size<=maxLen):Ko s=some (fg (bl s)):=by unfold Ko zsi;dsimp only;rw[zh] at h;have:=zt6 s h s.size 0 bE (by omega) (by omega) (by rw[zr];omega);rw[show((0:Nat):Int)=(0:Int) from rfl] at this;rw[this,aO];cases fg (bl s)<;>rfl
def nK(l:List Int)(n:Int):Int:=l.foldl (λn b=>10*n+(b-48)) n
theorem zum:∀(l:List Int) (n:Int) (k:Nat),fg l=true->0<=n->n<((10^k:Nat):Int)->l.length+k<=18->0<=nK l n/\nK l n<((10^(l.length+k):Nat):Int)
 | [],n,k,_,h1,h2,_=>by simpa [nK] using⟨h1,h2⟩
 |b::l,n,k,hd,h1,h2,hl=>by
  simp only[fg,iG,ar,jQ,decide_eq_true_eq] at hd;have hp:((10^(k+1):Nat):Int)=10*((10^k:Nat):Int):=by rw[jn];omega
  have:=zum l (10*n+(b-48)) (k+1) hd.2 (by omega) (by rw[hp];omega) (by simp at hl;omega);simp only[nK,cw,aF] at this⊢;rw[show l.length+1+k=l.length+(k+1) by omega];exact this
theorem GK{k m:Nat}(h:k<=m):10^k<=10^m:=cO (by decide) h
theorem SG(k:Nat):((10^(k+1):Nat):Int)=10*((10^k:Nat):Int):=by rw[jn];omega
theorem GL:(10:Nat)^17=100000000000000000:=by decide
theorem Qv(s:af)(hs:s.size<=18)(hd:fg (bl s)=true):∀(n j k:Nat) (t:Int),s.size-j<=n->j<=s.size->n<k->0<=t->t<((10^j:Nat):Int)->Lp k t (s,j)=some (nK ((bl s).drop j) t)
 |n,j,0,t,_,_,hk,_,_=>by omega
 |n,j,k+1,t,hn,hj,hk,h0,h1=>by
  unfold Lp Z3;dsimp only;by_cases bS:j<s.size
  ·have NC:jQ ((s[j]'bS).toNat:Int)=true:=by
    have:=aY.1 hd ((bl s).getD j 0) (by rw[aq,au (by rw[zg];exact bS)];exact cB _)
    rw[Uw bS] at this;exact this
   simp only[jQ,decide_eq_true_eq] at NC;rw[zT bS,zC,decode_ascii s j bS (by omega),YZ bS];dsimp only;have NS:=SG j;have w32:IntKind.i32.wrap (((s[j]'bS).toNat:Int)-48)=((s[j]'bS).toNat:Int)-48:=by simp [IntKind.wrap,IntKind.signed,eX];omega
   obtain⟨n,rfl⟩:∃n',n=n'+1:=⟨n-1,by omega⟩
   have ht:t<100000000000000000:=by have:=GK (show j<=17 by omega);rw[GL] at this;omega
   have a1:zW zI (10*t)=10*t:=zk (by omega) (by omega);have a2:zW zI (((s[j]'bS).toNat:Int)-48)=((s[j]'bS).toNat:Int)-48:=zk (by omega) (by omega);rw[w32,a1,a2,zk (by omega) (by omega),Qv s hs hd n (j+1) k _ (by omega) (by omega) (by omega) (by omega) (by omega)];rfl
  ·rw[zF bS,zD,aP (by rw[zg];omega)];rfl
def mP(l:List Int):Int×Bool:=if 1<=l.length/\l.length<=18/\fg l=true then(nK l 0,true) else(0,false)
theorem R9(s:af)(h:s.size<=maxLen):Ff s=some (mP (bl s)):=by
 unfold Ff Z2 mP;dsimp only;rw[zg];by_cases h0:s=bs []
 ·rw[zT h0,zC,if_neg];rw[h0];intro hh;have:(bs []).size=0:=rfl;omega
 ·have hz:s.size≠0:=λe=>h0 (zd2.2 (bD (by rw[zg];exact e)));rw[zF h0,zD];by_cases h1:(18:Int)<(s.size:Int)
  ·rw[zT h1,zC,if_neg (by omega)]
  ·rw[zF h1,zD,Zd s h,ap];cases hd:fg (bl s) with
   |false=>rw[if_neg (by simp)];rfl
   |true=>rw[if_pos ⟨by omega,by omega,rfl⟩];simp only[ai,zD];rw[Qv s (by omega) hd s.size 0 bE 0 (by omega) (by omega) (by rw[zr];omega) (by omega) (by decide),aO,ap];rfl
theorem ztp(s:af)(hs:s.size<=18)(hd:fg (bl s)=true):∀(n j k:Nat) (t:Int),s.size-j<=n->j<=s.size->n<k->0<=t->t<((10^j:Nat):Int)->Lt k s t (j:Int)=some (nK ((bl s).drop j) t)
 |n,j,0,t,_,_,hk,_,_=>by omega
 |n,j,k+1,t,hn,hj,hk,h0,h1=>by
  unfold Lt zsn;dsimp only;by_cases bS:j<s.size
  ·have NC:jQ ((s[j]'bS).toNat:Int)=true:=by
    have:=aY.1 hd ((bl s).getD j 0) (by rw[aq,au (by rw[zg];exact bS)];exact cB _)
    rw[Uw bS] at this;exact this
   simp only[jQ,decide_eq_true_eq] at NC;rw[zT (by omega),zC,zi bS,aw,uy,Uw bS,YZ bS];have NS:=SG j;obtain⟨n,rfl⟩:∃n',n=n'+1:=⟨n-1,by omega⟩
   have ht:t<100000000000000000:=by have:=GK (show j<=17 by omega);rw[GL] at this;omega
   have a1:zW zI (10*t)=10*t:=zk (by omega) (by omega);have a2:zW zI ((s[j]'bS).toNat:Int)=((s[j]'bS).toNat:Int):=zk (by omega) (by omega);have a3:zW zI (10*t+((s[j]'bS).toNat:Int))=10*t+((s[j]'bS).toNat:Int):=zk (by omega) (by omega);rw[a1,a2,a3,zk (by omega) (by omega),zu (by omega),ztp s hs hd n (j+1) k _ (by omega) (by omega) (by omega) (by omega) (by omega)];simp only[nK,cw];congr 2;omega
  ·rw[zF (by omega),zD,aP (by rw[zg];omega)];rfl
theorem ahY(s:af)(h:s.size<=maxLen):L5 s=some (mP (bl s)):=by
 unfold L5 zsm mP;dsimp only;rw[zg];by_cases h0:(s.size:Int)<1
 ·rw[zT h0,zC,if_neg (by omega)]
 ·rw[zF h0,zD];by_cases h1:(18:Int)<(s.size:Int)
  ·rw[zT h1,zC,if_neg (by omega)]
  ·rw[zF h1,zD,PZ s h,ap];cases hd:fg (bl s) with
   |false=>rw[if_neg (by simp)];rfl
   |true=>rw[if_pos ⟨by omega,by omega,rfl⟩];simp only[ai,zD];have:=ztp s (by omega) hd s.size 0 bE 0 (by omega) (by omega) (by rw[zr];omega) (by omega) (by decide);rw[show((0:Nat):Int)=(0:Int) from rfl] at this;rw[this,aO,ap];rfl
def CG:Nat->Nat->List Int
 |0,_=>[]
 |w+1,n=>CG w (n/10)++ [((48+n % 10:Nat):Int)]
theorem zd9:∀w n,(CG w n).length=w
 |0,_=>rfl
 |w+1,n=>by rw[CG,aJ,zd9 w];rfl
theorem Ql{l:List Int}(h:fg l=true):∀x∈l,zn x:=λx hx=>by have:=aY.1 h x hx;simp only[jQ,decide_eq_true_eq] at this;unfold zn;omega
theorem acJ(a b:List Int):strOf (a++b)=strOf a++strOf b:=by apply lJ;simp [strOf,dS]
theorem aof(n:Nat):Int.tmod (n:Int) 10=((n % 10:Nat):Int):=by rw[jl (by omega)];omega
theorem aoe(n:Nat):dj (n:Int) 10=((n/10:Nat):Int):=by rw[jk (by omega)];omega
theorem ajV(n:Nat):zW zU (zW zI ((48:Int)+((n % 10:Nat):Int)))=((48+n % 10:Nat):Int):=by rw[zk (by omega) (by omega),Cr (by omega) (by omega)];omega
theorem RH(n w:Nat):n/10/10^w=n/10^(w+1):=by rw[kh,jn,Nat.mul_comm]
theorem nJ(x:Int)(tail:List Int):∀j,(aB (j+1) (0:Int)++tail).set j x=aB j 0++x::tail
 |0=>rfl
 |j+1=>by show(0:Int)::((aB (j+1) (0:Int)++tail).set j x)=0::(aB j 0++x::tail);rw[nJ x tail j]
theorem QN(nt nt2:Nat)(hnt:nt<=18):∀(j k n:Nat) (tail:List Int),nt=j+tail.length->n<=9223372036854775807->j<k->
 Kc k (n:Int) nt ((j:Int)-1) nt2 (aB j 0++tail)=some (((n/10^j:Nat):Int),nt,nt2,CG j n++tail)
 |j,0,n,tail,_,_,hk=>by omega
 |0,k+1,n,tail,h,hn,hk=>by unfold Kc Uh;dsimp only;rw[zF (by omega),zD];simp [CG]
 |j+1,k+1,n,tail,h,hn,hk=>by
  unfold Kc Uh;dsimp only;have e:(((j+1:Nat):Int)-1)=(j:Int):=by omega
  rw[e,zT (by omega:(0:Int)<=(j:Int)),zC,zi (by omega),aw,aof,aoe,ajV];have hb:Nat.ble (j+1) (aB (j+1) (0:Int)++tail).length=true:=kD (by simp);rw[hb,zC,EX (by omega),zk (by omega) (by omega)];rw[nJ,QN nt nt2 hnt j k (n/10) _ (by simp;omega) (by omega) (by omega),RH];simp [CG]
def rh(n w:Int):af×Bool:=bif decide (0<=n/\1<=w/\w<=18/\n.toNat/10^w.toNat=0) then(strOf (CG w.toNat n.toNat),true) else(bs [],false)
theorem Jm{n w:Int}(h:0<=n/\1<=w/\w<=18/\n.toNat/10^w.toNat=0):rh n w=(strOf (CG w.toNat n.toNat),true):=by unfold rh;rw[zT h];rfl
theorem UF{n w:Int}(h:¬(0<=n/\1<=w/\w<=18/\n.toNat/10^w.toNat=0)):rh n w=(bs [],false):=by unfold rh;rw[zF h];rfl
theorem ana(n w:Int)(hn:n<=9223372036854775807):LQ n w=some (rh n w):=by
 unfold LQ Z6;dsimp only;by_cases h1:n<0
 ·rw[zT h1,zC,UF (by omega)]
 rw[zF h1,zD];by_cases h2:w<1
 ·rw[zT h2,zC,UF (by omega)]
 rw[zF h2,zD];by_cases h3:(18:Int)<w
 ·rw[zT h3,zC,UF (by omega)]
 rw[zF h3,zD,zT (rfl:w=w),zC,zT (by omega:(0:Int)<=w),zC,zT (by omega:w*1<=140737488355328),zC];obtain⟨m,rfl⟩:∃m:Nat,n=m:=⟨n.toNat,by omega⟩
 obtain⟨v,rfl⟩:∃v:Nat,w=v:=⟨w.toNat,by omega⟩
 simp only[aw];have:=QN v v (by omega) v bE m [] (by simp) (by omega) (by rw[zr];omega);simp only[bY] at this;rw[zk (by omega) (by omega),this,zc];unfold Z7;dsimp only;by_cases h4:(0:Int)<((m/10^v:Nat):Int)
 ·rw[zT h4,zC,UF (by simp only[aw];generalize m/10^v=q at h4⊢;omega)]
 ·rw[zF h4,zD,zd9,Nat.beq_refl,zC,Jm (by simp only[aw];generalize m/10^v=q at h4⊢;omega)];simp only[aw]
theorem z183(l r:List Int)(n:Int):nK (l++r) n=nK r (nK l n):=by unfold nK;rw[dE]
theorem Qk:∀(w n:Nat) (l:List Int),fg l=true->w=l.length->nK l 0=(n:Int)->CG w n=l/\n/10^w=0
 |0,n,l,hd,hw,hv=>by
  obtain rfl:=bD hw.symm;have:(0:Int)=n:=hv;obtain rfl:n=0:=by omega
  exact⟨rfl,rfl⟩
 |w+1,n,l,hd,hw,hv=>by
  have fL:l≠ []:=by intro e;subst e;simp at hw
  obtain⟨r,b,rfl⟩:∃r b,l=r++ [b]:=⟨l.dropLast,l.getLast fL,(iH fL).symm⟩
  rw[fg,kI,ar,iG,List.all_nil,iB] at hd;have hb:=hd.2;simp only[jQ,decide_eq_true_eq] at hb;rw[z183] at hv;have qC:10*nK r 0+(b-48)=n:=hv;obtain⟨i1,i2⟩:=Qk w (n/10) r hd.1 (by simpa using hw) (by omega);refine⟨?_,by rw[<-RH];exact i2⟩;rw[CG,i1];congr 2;omega
def od(l:List Int):Bool:=l.all λb=>decide (b=48)
theorem VO(b:Int)(l:List Int):od (b::l)=(decide (b=48)&&od l):=rfl
theorem zac(a b:List Int):od (a++b)=(od a&&od b):=kI ..
theorem adD(s:af)(x:Int)(l:List Int)(h:bl s=x::l):ze s 0=x:=by rw[uy,h];rfl
theorem OK(k:Nat):∀(s:af),s.size<k->s.size<=9223372036854775807->∃r,Ld k s 48=some r/\od (bl r)=od (bl s)/\(od (bl s)=true->bl r=[])/\r.size<=s.size:=by
 induction k with
 |zero=>intro s h;omega
 |succ k ih=>
  intro s h hs;unfold Ld Yv;dsimp only;by_cases h0:(0:Int)<(s.size:Int)
  ·have hm:zW zI ((s.size:Int)-1)=((s.size-1:Nat):Int):=by rw[zk (by omega) (by omega)];omega
   rw[zT h0,zC,hm,zi (by omega),aw];have hl:(bl s).length=s.size:=zg s;have fL:bl s≠ []:=by intro e;rw[e] at hl;simp at hl;omega
   obtain⟨r,b,hb⟩:∃r b,bl s=r++ [b]:=⟨(bl s).dropLast,(bl s).getLast fL,(iH fL).symm⟩
   have hr:r.length=s.size-1:=by rw[hb] at hl;simp at hl;omega
   have hx:ze s (s.size-1)=b:=by rw[uy,hb,<-hr,aq];simp
   rw[hx];by_cases hz:b=48
   ·rw[zT hz,zC,zT (by omega:(0:Int)<=((s.size-1:Nat):Int)),zC,zT (by omega:((s.size-1:Nat):Int)<=((s.size:Nat):Int)),zC];have he:bl (s.extract 0 (s.size-1))=r:=by rw[CU,hb,aO,<-hr,List.take_left'];rfl
    have lV:(s.extract 0 (s.size-1)).size=s.size-1:=by rw[<-zg,he,hr]
    obtain⟨q,q1,q2,q3,q4⟩:=ih (s.extract 0 (s.size-1)) (by omega) (by omega);refine⟨q,q1,?_,λha=>q3 ?_,by omega⟩
    ·rw[q2,he,hb,zac,VO,zT hz];simp [od]
    ·rw[hb,zac,ar] at ha;rw[he];exact ha.1
   ·rw[zF hz,zD];refine⟨s,rfl,rfl,λha=> ?_,bg _⟩;rw[hb,zac,VO,zF hz] at ha;simp at ha
  ·rw[zF h0,zD];refine⟨s,rfl,rfl,λ_=>bD (by rw[zg];omega),bg _⟩
theorem Ni{s:af}{x:Int}{l:List Int}(h:bl s=x::l):bl (s.extract 1 s.size)=l:=by rw[CU,<-zg,cC,h];rfl
theorem OJ(k:Nat):∀(s:af),s.size<k->s.size<=9223372036854775807->∃r,Lc k s 48=some r/\((bl r=[])↔od (bl s)=true):=by
 induction k with
 |zero=>intro s h;omega
 |succ k ih=>
  intro s h hs;unfold Lc Yr;dsimp only;have hl:(bl s).length=s.size:=zg s;by_cases h0:(0:Int)<(s.size:Int)
  ·rw[zT h0,zC,zm (by omega) h0];cases hb:bl s with
   |nil=>rw[hb] at hl;simp at hl;omega
   |cons x l=>
    rw[show((0:Int)).toNat=0 from rfl,show((1:Int)).toNat=1 from rfl,adD s x l hb];by_cases hz:x=48
    ·rw[zT hz,zC,zT (by omega:(1:Int)<=((s.size:Nat):Int)),zC];have he:=Ni hb;have lV:(s.extract 1 s.size).size=s.size-1:=by rw[<-zg,he,<-hl,hb];simp
     obtain⟨q,q1,q2⟩:=ih (s.extract 1 s.size) (by omega) (by omega);refine⟨q,q1,q2.trans ?_⟩;rw[he,VO,zT hz];simp
    ·rw[zF hz,zD];refine⟨s,rfl,?_⟩;rw[hb,VO,zF hz];simp
  ·rw[zF h0,zD];have:bl s=[]:=bD (by omega);refine⟨s,rfl,?_⟩;rw[this];simp [od]
theorem amn(s:af)(h:s.size<=9223372036854775807):∃r,Bh s (bs [48])=some r/\(r=bs []↔od (bl s)=true):=by
 unfold Bh Yo;by_cases h0:s=bs []
 ·rw[zT h0,zC];refine⟨s,rfl,?_⟩;rw[h0];simp [Qf,od]
 rw[zF h0,zD,zF (show¬bs [48]=bs [] from λe=>absurd (congrArg ByteArray.size e) (by decide)),zD,zT (by rfl:(((bs [48]).size:Nat):Int)=1),zC];have hb:ze (bs [48]) ((0:Int)).toNat=48:=by rw[uy];rfl
 have hw {R:Type} (x:ae R):zd (0:Int) (bs [48]).size x=x:=zm (by omega) (by decide);rw[hw,hb,zT (by decide:(48:Int)<128),zC,hw];unfold Dl Yu;dsimp only;obtain⟨r,r1,r2,r3,r4⟩:=OK bE s (by rw[zr];omega) h;rw[r1,zc];unfold Yw;rw[zc,hw];unfold Dk Yq;dsimp only;obtain⟨q,q1,q2⟩:=OJ bE r (by rw[zr];omega) (by omega);rw[q1,zc];unfold Ys;rw[zc];refine⟨q,rfl,?_⟩;rw[zd2,q2,r2]
theorem zhy:∀(c:Nat),bl ⟨(jt (bs [48]).data.toList c).toArray⟩=aB c 48
 |0=>rfl
 |c+1=>by rw[eY,<-zhy c];simp only[bl,jt,cz];rfl
def nZ(s:af)(w:Int):af×Bool:=
 bif decide (1<=s.size/\s.size<=999/\fg (bl s)=true/\1<=w/\w<=999) then
  (bif decide ((s.size:Int)<=w) then(strOf (aB (w-s.size).toNat 48++bl s),true)
   else bif od ((bl s).take (s.size-w.toNat)) then(strOf ((bl s).drop (s.size-w.toNat)),true) else(bs [],false))
 else(bs [],false)
theorem LB{s:af}{w:Int}(h:¬(1<=s.size/\s.size<=999/\fg (bl s)=true/\1<=w/\w<=999)):nZ s w=(bs [],false):=by unfold nZ;rw[zF h];rfl
theorem SF{s:af}{w:Int}(h:1<=s.size/\s.size<=999/\fg (bl s)=true/\1<=w/\w<=999):nZ s w=(bif decide ((s.size:Int)<=w) then(strOf (aB (w-s.size).toNat 48++bl s),true)
 else bif od ((bl s).take (s.size-w.toNat)) then(strOf ((bl s).drop (s.size-w.toNat)),true) else(bs [],false)):=by unfold nZ;rw[zT h];rfl
theorem am9(s:af)(w:Int)(h:s.size<=maxLen):LP s w=some (nZ s w):=by
 unfold LP Z4;dsimp only;by_cases h0:s=bs []
 ·rw[zT h0,zC,LB];intro hh;rw[h0] at hh;exact absurd hh.1 (by decide)
 have hz:s.size≠0:=λe=>h0 (zd2.2 (bD (by rw[zg];exact e)));rw[zF h0,zD];by_cases h1:(999:Int)<(s.size:Int)
 ·rw[zT h1,zC,LB (by omega)]
 rw[zF h1,zD,Zd s h,zc];cases hd:fg (bl s) with
 |false=>rw[LB (by rw[hd];simp)];rfl
 |true=>
  rw[ai,zD];by_cases h2:w<1
  ·rw[zT h2,zC,LB (by omega)]
  rw[zF h2,zD];by_cases h3:(999:Int)<w
  ·rw[zT h3,zC,LB (by omega)]
  rw[zF h3,zD,SF ⟨by omega,by omega,hd,by omega,by omega⟩];obtain⟨v,rfl⟩:∃v:Nat,w=v:=⟨w.toNat,by omega⟩
  by_cases h4:(s.size:Int)<=(v:Int)
  ·rw[zT h4,zC,zC];obtain⟨c,hc⟩:∃c:Nat,(v:Int)-(s.size:Int)=(c:Int):=⟨v-s.size,by omega⟩
   rw[hc,EX (by omega)];have hR:strings_Repeat (bs [48]) (c:Int)=some ⟨(jt (bs [48]).data.toList c).toArray⟩:=by unfold strings_Repeat;rw[zT (by omega:(0:Int)<=(c:Int)),zT (by omega:(c:Int)<=9223372036854775807),zT (by rw[show(((bs [48]).size:Nat):Int)=1 from rfl];omega),aw];rfl
   rw[hR,zc];have lV:((⟨(jt (bs [48]).data.toList c).toArray⟩:af)).size=c:=by rw[<-zg,zhy,fF]
   rw[lV,zT (by omega),zC,aw];congr 2;apply Kg;rw[yr,zhy,Cy];intro x hx;rcases aR.1 hx with hx|hx
   ·rw[(List.mem_replicate.1 hx).2];unfold zn;omega
   ·exact sY hx
  ·rw[zF h4,zD,zD];obtain⟨c,hc⟩:∃c:Nat,(s.size:Int)-(v:Int)=(c:Int):=⟨s.size-v,by omega⟩
   have hcv:s.size-((v:Int)).toNat=c:=by omega
   rw[hc,EX (by omega),zT (by omega:(0:Int)<=(c:Int)),zC,zT (by omega:(c:Int)<=((s.size:Nat):Int)),zC,aw,hcv];have hx:bl (s.extract 0 c)=(bl s).take c:=by rw[CU,aO]
   have Ao:(s.extract 0 c).size=c:=by rw[<-zg,hx,aU,zg];omega
   obtain⟨r,r1,r2⟩:=amn (s.extract 0 c) (by omega);rw[r1,zc];rw[hx] at r2;cases ha:od ((bl s).take c) with
   |true=>rw[zT (r2.2 ha),ai,zD,zC,zC];congr 2;apply Kg;rw[CU,<-zg,cC,Cy];exact λx hx=>sY (iP hx)
   |false=>rw[zF (λe=>by rw[r2.1 e] at ha;cases ha),aV,zC];rfl
def mO:List Int->List Int
 |a::b::r=>(16*(a-48)+(b-48))::mO r
 |_=>[]
def yx(s:af):af×Bool:=
 bif decide (s.size<=999/\fg (bl s)=true) then(strOf (mO (if s.size % 2=1 then 48::bl s else bl s)),true) else(bs [],false)
def pn(odd:Bool):List Int->Nat->ae (Int×Int)
 | [],_=>none
 |x::r,i=>if i=0/\odd=true/\x/16≠0 then some (4,0) else if 9<x/16\/9<x % 16 then some (3,i) else pn odd r (i+1)
def mN:List Int->List Int
 | []=>[]
 |x::r=>(48+x/16)::(48+x % 16)::mN r
def z21(b:af)(n:Int):af×Int×Int:=
 if n<0\/999<n then(bs [],1,0) else if(b.size:Int)<(n+1)/2 then(bs [],2,(b.size:Int)) else
 match pn (decide (n % 2=1)) ((bl b).take ((n+1)/2).toNat) 0 with
 |some e=>(bs [],e.1,e.2)
 |none=>(strOf ((mN ((bl b).take ((n+1)/2).toNat)).drop (n % 2).toNat),0,0)
theorem ajE:∀a b:Fin 10,dn .or .u8 (zW zU ((zW zU ((48+(a.1:Int))-48))*2^min ((4:Int)).toNat 8)) (zW zU ((48+(b.1:Int))-48))=16*(a.1:Int)+(b.1:Int):=by decide+kernel
theorem RG{x:Int}(h:jQ x=true):∃k:Fin 10,x=48+(k.1:Int):=by unfold jQ at h;simp only[ar,decide_eq_true_eq] at h;exact⟨⟨(x-48).toNat,by omega⟩,by simp;omega⟩
theorem aaf{x y:Int}(hx:jQ x=true)(hy:jQ y=true):dn .or .u8 (zW zU ((zW zU (x-48))*2^min ((4:Int)).toNat 8)) (zW zU (y-48))=16*(x-48)+(y-48):=by obtain⟨a,rfl⟩:=RG hx;obtain⟨b,rfl⟩:=RG hy;have:=ajE a b;rw[this];omega
theorem zae(s:af)(hs:s.size<=1099511627776)(hev:s.size % 2=0)(hd:fg (bl s)=true):∀(n j k:Nat) (o:List Int),j+2*n=s.size->n<k->o.length+n<=35184372088832->rI k s o (j:Int)=some (o++mO ((bl s).drop j))
 |n,j,0,o,_,hk,_=>by omega
 |0,j,k+1,o,hj,hk,_=>by unfold rI uI;rw[zF (by omega),zD,aP (by rw[zg];omega),mO,bY];exact λ_ _ _ h=>by cases h
 |n+1,j,k+1,o,hj,hk,ho=>by
  have bS:j<s.size:=by omega
  have Eb:j+1<s.size:=by omega
  have hl:j<(bl s).length:=by rw[zg];exact bS
  have Gm:j+1<(bl s).length:=by rw[zg];exact Eb
  have d1:=aY.1 hd _ (cB hl);have d2:=aY.1 hd _ (cB Gm);have e:zW zI ((j:Int)+2)=((j+2:Nat):Int):=by rw[zk (by omega) (by omega)];omega
  unfold rI uI;rw[zT (by omega),zC,zi bS,zu (by omega),zi Eb,aw,aw,T5 hl,T5 Gm,aaf d1 d2,zT (by simp only[cj];omega),zC,e];dsimp only;rw[zae s hs hev hd n (j+2) k _ (by omega) (by omega) (by rw[aJ,cj];omega),aM hl,aM Gm,mO,bd];rfl
theorem aag:bl (bs [48])=[48]:=by decide
theorem zgy(s:af)(hs:s.size<=maxLen):Q1 s=some (yx s):=by
 unfold Q1 s6 yx;by_cases h1:(999:Int)<(s.size:Int)
 ·rw[zT h1,zC,zF (by omega)];rfl
 ·rw[zF h1,zD,Zd s hs,zc];cases hd:fg (bl s) with
  |false=>rw[zF (p:=s.size<=999/\false=true) (λh=>by cases h.2)];rfl
  |true=>
   rw[ai,zD,zT (⟨by omega,rfl⟩:s.size<=999/\true=true),zC,K2];by_cases hp:s.size % 2=1
   ·have lV:(bs [48]++s).size=s.size+1:=by rw[ci];show 1+s.size=_;omega
    have hb:bl (bs [48]++s)=48::bl s:=by rw[yr,aag];rfl
    rw[if_pos hp,zF (by omega),aV,zC,zT (by show 1+s.size<=_;omega),zC,lV];have e:dj ((s.size+1:Nat):Int) 2=(((s.size+1)/2:Nat):Int):=rfl;rw[e,zk (by omega) (by omega),zT (by omega),zC,zT (by omega),zC];have:=zae (bs [48]++s) (by omega) (by omega) (by rw[hb];show(jQ 48&&fg (bl s))=true;rw[hd];rfl) ((s.size+1)/2) 0 bE [] (by omega) (by rw[zr];omega) (by simp;omega);rw[show((0:Nat):Int)=0 from rfl,aO,b6,hb] at this;dsimp only;rw[this];rfl
   ·rw[if_neg hp,zT (by omega),ai,zD];have e:dj ((s.size:Nat):Int) 2=((s.size/2:Nat):Int):=rfl;rw[e,zk (by omega) (by omega),zT (by omega),zC,zT (by omega),zC];have:=zae s (by omega) (by omega) hd (s.size/2) 0 bE [] (by omega) (by rw[zr];omega) (by simp;omega);rw[show((0:Nat):Int)=0 from rfl,aO,b6] at this;dsimp only;rw[this];rfl
theorem SQ(n:Int)(h0:0<=n)(h1:n<=999):Q2 n=some ((n+1)/2):=by
 unfold Q2 xg;obtain⟨m,rfl⟩:∃m:Nat,n=m:=⟨n.toNat,by omega⟩
 by_cases h:(m:Int)<1
 ·rw[zT h,zC];congr 1;omega
 ·rw[zF h,zD,K2];have e:dj (m:Int) 2=((m/2:Nat):Int):=rfl;have e2:zW zI ((m/2:Nat):Int)=((m/2:Nat):Int):=zk (by omega) (by omega);rw[e,e2,zk (by omega) (by omega)];congr 1;omega
theorem akx:∀d:Fin 16,d.1<=9->zW zU ((48:Int)+(d.1:Int))=48+(d.1:Int):=by decide+kernel
theorem Oi{d:Nat}(h:d<=9):zW zU ((48:Int)+(d:Int))=48+(d:Int):=akx ⟨d,by omega⟩ h
theorem zn6(b:af)(hb0:b.size<=1099511627776)(nn:Nat)(hn:nn<=999)(m:Nat)(hm:m<=b.size):∀(n j k:Nat) (o:List Int),j+n=m->n<k->o.length+2*n<=35184372088832->∃o',qv k b (nn:Int) o (m:Int) (j:Int)=some (match pn (decide (nn % 2=1)) (((bl b).take m).drop j) j with
 |some e=> .inl ((nn:Int),bs [],e.1,e.2,o')
 |none=> .inr ((nn:Int),o++mN (((bl b).take m).drop j)))
 |n,j,0,o,_,hk,_=>by omega
 |0,j,k+1,o,hj,hk,_=>by unfold qv uF;rw[zF (by omega),zD,aP (by rw[aU,zg];omega)];exact⟨o,by simp [pn,mN]⟩
 |n+1,j,k+1,o,hj,hk,ho=>by
  have bS:j<b.size:=by omega
  have hl:j<(bl b).length:=by rw[zg];exact bS
  have hl2:j<((bl b).take m).length:=by rw[aU];omega
  obtain⟨x,hx,_,_⟩:=nib (sY (cB hl));have Gz:=x.2;have ih:=zn6 b hb0 nn hn m hm n (j+1) k (o++ [48+((x.1/16:Nat):Int),48+((x.1 % 16:Nat):Int)]) (by omega) (by omega) (by rw[aJ];simp only[aF,cL];omega);have hw:∀{R:Type} (z:ae R),zd (j:Int) b.size z=z:=λz=>zi bS;have qi:((bl b).take m).drop j=(x.1:Int)::((bl b).take m).drop (j+1):=by rw[aM hl2,jM,hx]
  rw[qi,pn,mN];unfold qv uF;simp only[hw,aw,T5 hl,hx,(Y6 x).1,(Y6 x).2.1,K2];rw[zT (by omega:(j:Int)<(m:Int)),zC];have e16:(x.1:Int)/16=((x.1/16:Nat):Int):=by omega
  have e17:(x.1:Int)% 16=((x.1 % 16:Nat):Int):=by omega
  rw[e16,e17];have plain:∀(Z:ae (Sum (Int×af×Int×Int×List Int) (Int×List Int))),Z=(bif decide ((9:Int)<((x.1/16:Nat):Int)) then some (.inl ((nn:Int),bs [],(3:Int),(j:Int),o)) else bif decide ((9:Int)<((x.1 % 16:Nat):Int)) then some (.inl ((nn:Int),bs [],(3:Int),(j:Int),o)) else(bif decide ((o.length+(ag ([zW zU (48+((x.1/16:Nat):Int)),zW zU (48+((x.1 % 16:Nat):Int))]:List Int)))*1<=140737488355328) then qv k b (nn:Int) (o++ [zW zU (48+((x.1/16:Nat):Int)),zW zU (48+((x.1 % 16:Nat):Int))]) (m:Int) (zW zI ((j:Int)+1)) else none))->
   ∃o',Z=some (match(if 9<((x.1/16:Nat):Int)\/9<((x.1 % 16:Nat):Int) then some ((3:Int),(j:Int)) else pn (decide (nn % 2=1)) (((bl b).take m).drop (j+1)) (j+1)) with
    |some e=> .inl ((nn:Int),bs [],e.1,e.2,o')
    |none=> .inr ((nn:Int),o++(48+((x.1/16:Nat):Int))::(48+((x.1 % 16:Nat):Int))::mN (((bl b).take m).drop (j+1)))):=λZ hZ=>by
   rw[hZ];by_cases c1:(9:Int)<((x.1/16:Nat):Int)
   ·rw[zT c1,if_pos (.inl c1)];exact⟨o,rfl⟩
   ·by_cases c2:(9:Int)<((x.1 % 16:Nat):Int)
    ·rw[zF c1,zD,zT c2,if_pos (.inr c2)];exact⟨o,rfl⟩
    ·rw[zF c1,zD,zF c2,zD,if_neg (λh=>h.elim c1 c2),Oi (by omega),Oi (by omega),zT (by simp only[aF,cL];omega),zC,zu (by omega)];obtain⟨o',h⟩:=ih;refine⟨o',h.trans ?_⟩;rw[bd];rfl
  by_cases j0:j=0
  ·subst j0;rw[zT (by omega:((0:Nat):Int)=0),zC];by_cases hp:nn % 2=1
   ·rw[zT hp,zF (by omega:¬((nn % 2:Nat):Int)=0),aV,zC];by_cases hz:x.1/16=0
    ·rw[if_neg (by omega),zT (by omega),ai,zD];have:=plain _ rfl;rw[zT hp] at this;exact this
    ·rw[if_pos (by simp;omega),zF (by omega),aV,zC];exact⟨o,rfl⟩
   ·rw[zF hp,zT (by omega:((nn % 2:Nat):Int)=0),ai,zD,if_neg (by simp)];have:=plain _ rfl;rw[zF hp] at this;exact this
  ·rw[zF (by omega:¬(j:Int)=0),zD,if_neg (by omega)];exact plain _ rfl
theorem zgx(b:af)(n:Int)(hb:b.size<=1099511627776):Q0 b n=some (z21 b n):=by
 unfold Q0 wX z21;by_cases h0:n<0
 ·rw[zT h0,if_pos (.inl h0)];rfl
 ·rw[zF h0,zD];by_cases h1:999<n
  ·rw[zT h1,if_pos (.inr h1)];rfl
  ·rw[zF h1,zD,if_neg (λh=>h.elim h0 h1),SQ n (by omega) (by omega),zc];by_cases h2:(b.size:Int)<(n+1)/2
   ·rw[zT h2,if_pos h2];rfl
   ·rw[zF h2,zD,if_neg h2,zk (by omega) (by omega),zT (by omega),zC,zT (by omega),zC,zc];obtain⟨nn,rfl⟩:∃nn:Nat,n=nn:=⟨n.toNat,by omega⟩
    have em:((nn:Int)+1)/2=(((nn+1)/2:Nat):Int):=by omega
    have ep:((nn:Int)% 2).toNat=nn % 2:=by omega
    have eo:decide ((nn:Int)% 2=1)=decide (nn % 2=1):=decide_eq_decide.2 (by omega);rw[em,aw,eo,ep];obtain⟨o',h⟩:=zn6 b hb nn (by omega) ((nn+1)/2) (by omega) ((nn+1)/2) 0 bE [] (by omega) (by rw[zr];omega) (by simp;omega);rw[show((0:Nat):Int)=0 from rfl,aO,b6] at h;dsimp only;rw[h,zc];cases pn (decide (nn % 2=1)) ((bl b).take ((nn+1)/2)) 0 with
    |some e=>rfl
    |none=>
     dsimp only;rw[cc];unfold wY;dsimp only;rw[K2,zT (by omega),zC];have hlen:∀l:List Int,(mN l).length=2*l.length:=λl=>by
      induction l with
      |nil=>rfl
      |cons x r ih=>rw[mN,aF,aF,ih,aF];omega
     rw[zT (by rw[hlen,aU,zg];omega),zC,aw,cC]
theorem zZ{a:Int}{l:List Int}:fg (a::l)=true↔jQ a=true/\fg l=true:=by rw[zgr,ar]
theorem CW{a:Int}:jQ a=true↔48<=a/\a<=57:=by unfold jQ;rw[decide_eq_true_eq]
theorem zp9:∀l:List Int,(mO l).length=l.length/2
 | []=>rfl
 | [a]=>by simp [mO]
 |a::b::r=>by rw[mO,aF,zp9 r,aF,aF];omega
theorem zp8:∀l:List Int,(mN l).length=2*l.length
 | []=>rfl
 |x::r=>by rw[mN,aF,aF,zp8 r,aF];omega
theorem zzv:∀{l:List Int},fg l=true->∀y∈mO l,zn y
 | [],_,y,hy=>by simp [mO] at hy
 | [a],_,y,hy=>by simp [mO] at hy
 |a::b::r,h,y,hy=>by
  obtain⟨h1,h2⟩:=zZ.1 h;obtain⟨h2,h3⟩:=zZ.1 h2;rw[CW] at h1 h2;rw[mO] at hy;rcases aH.1 hy with rfl|hy
  ·unfold zn;omega
  ·exact zzv h3 y hy
theorem F5:∀{l:List Int},l.length % 2=0->fg l=true->mN (mO l)=l
 | [],_,_=>by simp [mO,mN]
 | [a],h,_=>by simp at h
 |a::b::r,h,hd=>by obtain⟨h1,h2⟩:=zZ.1 hd;obtain⟨h2,h3⟩:=zZ.1 h2;rw[CW] at h1 h2;rw[mO,mN,F5 (by simp only[aF] at h;omega) h3,show 48+(16*(a-48)+(b-48))/16=a by omega,show 48+(16*(a-48)+(b-48))% 16=b by omega]
theorem F4(odd:Bool):∀{l:List Int} {i:Nat},l.length % 2=0->fg l=true->(i=0->odd=true->l.getD 0 48=48)->pn odd (mO l) i=none
 | [],_,_,_,_=>by simp [mO,pn]
 | [a],_,h,_,_=>by simp at h
 |a::b::r,i,h,hd,ho=>by
  obtain⟨h1,h2⟩:=zZ.1 hd;obtain⟨h2,h3⟩:=zZ.1 h2;rw[CW] at h1 h2;rw[mO,pn,if_neg,if_neg (by omega)]
  ·exact F4 odd (by simp only[aF] at h;omega) h3 λhi=>by omega
  ·rintro⟨e1,e2,e3⟩;have:a=48:=ho e1 e2;omega
def pM(s:af):List Int:=if s.size % 2=1 then 48::bl s else bl s
theorem zzw(s:af):(pM s).length % 2=0:=by
 unfold pM;split
 ·rw[aF,zg];omega
 ·rw[zg];omega
theorem Qc(s:af):(pM s).length/2=(s.size+1)/2:=by
 unfold pM;split
 ·rw[aF,zg]
 ·rw[zg];omega
theorem zpa{s:af}(h:fg (bl s)=true):fg (pM s)=true:=by
 unfold pM;split
 ·exact zZ.2 ⟨rfl,h⟩
 ·exact h
theorem zh0{s:af}(h:s.size<=999)(hd:fg (bl s)=true):yx s=(strOf (mO (pM s)),true):=by unfold yx pM;rw[zT ⟨h,hd⟩,zC]
theorem zaf{s:af}(h:s.size<=999)(hd:fg (bl s)=true):(yx s).1.size=(s.size+1)/2:=by rw[zh0 h hd];show(strOf _).size=_;rw[CV,zp9,Qc]
theorem ajF{s:af}(h:s.size<=999)(hd:fg (bl s)=true):z21 (yx s).1 (s.size:Int)=(s,0,0):=by
 have lV:=zaf h hd;have hb:bl (yx s).1=mO (pM s):=by rw[zh0 h hd];exact Cy (zzv (zpa hd))
 unfold z21;rw[if_neg (by omega),if_neg (by rw[lV];omega),hb,cp (by rw[zp9,Qc];omega),F4 _ (zzw s) (zpa hd),F5 (zzw s) (zpa hd)]
 ·dsimp only;by_cases hp:s.size % 2=1
  ·rw[show((s.size:Int)% 2).toNat=1 by omega];unfold pM;rw[if_pos hp,ll,aO,JJ]
  ·rw[show((s.size:Int)% 2).toNat=0 by omega];unfold pM;rw[if_neg hp,aO,JJ]
 ·intro _ ho;have ho:=of_decide_eq_true ho;unfold pM;rw[if_pos (by omega)];rfl
theorem zzu{odd:Bool}:∀{l:List Int} {i:Nat},pn odd l i=none->(∀x∈l,x/16<=9/\x % 16<=9)/\(i=0->odd=true->l.getD 0 0/16=0)
 | [],i,_=>⟨λx hx=>(by cases hx),λ_ _=>rfl⟩
 |a::r,i,h=>by
  rw[pn] at h;by_cases h1:i=0/\odd=true/\a/16≠0
  ·rw[if_pos h1] at h;cases h
  ·rw[if_neg h1] at h;by_cases h2:9<a/16\/9<a % 16
   ·rw[if_pos h2] at h;cases h
   ·rw[if_neg h2] at h;refine⟨λx hx=> ?_,λhi ho=> ?_⟩
    ·rcases aH.1 hx with rfl|hx
     ·omega
     ·exact(zzu h).1 x hx
    ·show a/16=0;by_cases h3:a/16=0
     ·exact h3
     ·exact absurd ⟨hi,ho,h3⟩ h1
theorem F6:∀{l:List Int},(∀x∈l,zn x)->mO (mN l)=l
 | [],_=>by simp [mN,mO]
 |x::r,h=>by have hx:=h x aW;unfold zn at hx;rw[mN,mO,F6 λy hy=>h y (aG _ hy),show 16*(48+x/16-48)+(48+x % 16-48)=x by omega]
theorem Qb:∀{l:List Int},(∀x∈l,zn x)->(∀x∈l,x/16<=9/\x % 16<=9)->fg (mN l)=true
 | [],_,_=>rfl
 |x::r,h,h9=>by have hx:=h x aW;have hy:=h9 x aW;unfold zn at hx;rw[mN];exact zZ.2 ⟨CW.2 (by omega),zZ.2 ⟨CW.2 (by omega),Qb (λy hy=>h y (aG _ hy)) λy hy=>h9 y (aG _ hy)⟩⟩
theorem OY{l:List Int}(h:fg l=true):∀x∈l,zn x:=λx hx=>by have:=CW.1 (aY.1 h x hx);unfold zn;omega
theorem zzx{b t:af}{n i:Int}(h:z21 b n=(t,0,i))(hb:(b.size:Int)=(n+1)/2):yx t=(b,true)/\(t.size:Int)=n/\fg (bl t)=true:=by
 unfold z21 at h;by_cases h0:n<0\/999<n
 ·rw[if_pos h0] at h;cases h
 ·rw[if_neg h0,if_neg (by omega),<-hb,aw,cp (by rw[zg];exact bg _)] at h;cases he:pn (decide (n % 2=1)) (bl b) 0 with
  |some e=>
   rw[he] at h;dsimp only at h;injection h with _ h
   injection h with h _
   exfalso;have key:∀{l:List Int} {i:Nat} {odd:Bool} {e:Int×Int},pn odd l i=some e->e.1≠0:=by
    intro l
    induction l with
    |nil=>intro i odd e h;cases h
    |cons a r ih=>
     intro i odd e h;rw[pn] at h;split at h
     ·cases h;decide
     ·split at h
      ·cases h;simp
      ·exact ih h
   exact key he h
  |none=>
   rw[he] at h;dsimp only at h;obtain⟨g1,g2⟩:=zzu he;have vL:∀x∈bl b,zn x:=λx hx=>sY hx;have kG:=Qb vL g1;have ht:t=strOf ((mN (bl b)).drop (n % 2).toNat):=(congrArg Prod.fst h).symm;have Gg:fg ((mN (bl b)).drop (n % 2).toNat)=true:=aY.2 λx hx=>aY.1 kG x (iP hx);have lR:bl t=(mN (bl b)).drop (n % 2).toNat:=by rw[ht];exact Cy (OY Gg)
   have sF:t.size=2*b.size-(n % 2).toNat:=by rw[<-zg,lR,bW,zp8,zg]
   have hX:pM t=mN (bl b):=by
    unfold pM;by_cases hp:n % 2=1
    ·rw[if_pos (by omega),lR,show(n % 2).toNat=1 by omega];have h1:=g2 rfl (by rw[zT hp]);cases hl:bl b with
     |nil=>
      have h9:b.size=0:=by rw[<-zg,hl];rfl
      omega
     |cons x r=>rw[hl] at h1;have h1:x/16=0:=h1;rw[mN,ll,aO,h1];rfl
    ·rw[if_neg (by omega),lR,show(n % 2).toNat=0 by omega,aO]
   have hd:fg (bl t)=true:=by rw[lR];exact Gg
   refine⟨?_,by omega,hd⟩;rw[zh0 (by omega) hd,hX,F6 vL,JJ]
def oJ(aK form:Int):Bool:=decide ((aK=1\/aK=2)/\(form=2\/form=3))
def sV(aK form:Int):Nat:=if aK=2 then(form.toNat+1)/2 else form.toNat
def Kj(aK form n:Int):af×Int:=
 bif oJ aK form then(bif(rh n form).2 then(if aK=2 then(yx (rh n form).1).1 else(rh n form).1,0) else(bs [],5)) else(bs [],1)
def Ch(aK form:Int)(s:af):ae Int:=
 if aK=2 then(if(z21 s form).2.1=0 then(if(mP (bl (z21 s form).1)).2=true then some (mP (bl (z21 s form).1)).1 else none) else none) else if(mP (bl s)).2=true then some (mP (bl s)).1 else none
def tM(aK form:Int)(b:af)(at_:Int):Int×Int×Int:=
 bif oJ aK form&&decide (0<=at_/\at_<=b.size) then(if b.size<at_.toNat+sV aK form then(0,0,2) else
  match Ch aK form (b.extract at_.toNat (at_.toNat+sV aK form)) with
  |some n=>(n,((at_.toNat+sV aK form:Nat):Int),0)
  |none=>(0,0,3)) else(0,0,1)
theorem PG(n w:Int):(rh n w).1.size<=18:=by
 by_cases h:0<=n/\1<=w/\w<=18/\n.toNat/10^w.toNat=0
 ·rw[Jm h];show(strOf _).size<=18;rw[CV,zd9];omega
 ·rw[UF h];decide
theorem ahi(aK form n:Int)(hn:n<=9223372036854775807):yI aK form n=some (Kj aK form n):=by
 unfold yI XB yJ TG rJ TH Kj oJ;by_cases h1:aK=1<;>by_cases h2:aK=2<;>by_cases h3:form=2<;>by_cases h4:form=3<;>(try(exfalso;omega))<;>simp [h1,h2,h3,h4,ana _ _ hn]
 all_goals
  cases hp:(rh n _).2<;>simp [hp]
 all_goals
  rw[zgy _ (by have:=PG n;simp only[maxLen];first|(have:=this 2;omega)|(have:=this 3;omega))];rfl
theorem z59{b:af}{i n:Nat}(h:i+n<=b.size):(b.extract i (i+n)).size=n:=by rw[b9];omega
theorem zad{b t:af}{n e i:Int}(h:z21 b n=(t,e,i)):t.size<=1998:=by
 unfold z21 at h;split at h
 ·cases h;decide
 ·split at h
  ·cases h;decide
  ·split at h
   ·cases h;decide
   ·cases h;rw[CV,bW,zp8,aU];omega
theorem ahf(aK form:Int)(b:af)(at_:Int)(hb:b.size<=1099511627776):A5 aK form b at_=some (tM aK form b at_):=by
 unfold A5 Xy yJ TG rJ TH tM oJ;by_cases iq:0<=at_/\at_<=b.size
 ·obtain⟨m,rfl⟩:∃m:Nat,at_=m:=⟨at_.toNat,by omega⟩
  have hm:m<=b.size:=by omega
  have w0:zW zI ((b.size:Int)-(m:Int))=(b.size:Int)-m:=zk (by omega) (by omega);have w1:∀k:Nat,k<=3->zW zI ((m:Int)+(k:Int))=((m+k:Nat):Int):=λk hk=>by rw[zk (by omega) (by omega)];omega
  have z1:=SQ 2 (by decide) (by decide);have z2:=SQ 3 (by decide) (by decide);have v1:=w1 1 (by decide);have v2:=w1 2 (by decide);have v3:=w1 3 (by decide);rw[show((1:Nat):Int)=1 from rfl] at v1;rw[show((2:Nat):Int)=2 from rfl] at v2;rw[show((3:Nat):Int)=3 from rfl] at v3;have t2:((m:Int)+2).toNat=m+2:=by omega
  have t3:((m:Int)+3).toNat=m+3:=by omega
  have a1:¬(m:Int)<0:=by omega
  have a2:¬(b.size:Int)<m:=by omega
  have a3:0<=((m:Int)):=by omega
  have a4:(m:Int)<=b.size:=by omega
  by_cases h1:aK=1<;>by_cases h2:aK=2<;>by_cases h3:form=2<;>by_cases h4:form=3<;>(try(exfalso;omega))<;>simp [h1,h2,h3,h4,a1,a2,w0,z1,z2,v1,v2,v3,sV]
  all_goals
   rw[zT hm,zC];split
   ·rename_i hc;rw[zT (by omega),zC]
   ·rename_i hc;rw[zF (by omega),zD,zT (by omega),zC,zT (by omega),zC,zT (by omega),zC]
    try rw[t2]
    try rw[t3]
    first
     |(rw[R9 _ (by rw[b9];simp only[maxLen];omega),zc]
       unfold Ch;rw[if_neg (by decide)];cases(mP _).2<;>rfl)
     |(rw[zgx _ _ (by rw[b9];omega),zc]
       unfold Ch;rw[if_pos rfl];generalize hg:z21 _ _=gg;obtain⟨t,e,i⟩:=gg;dsimp only;by_cases he:e=0
       ·rw[zT he,zC,if_pos he,R9 _ (by have:=zad hg;simp only[maxLen];omega),zc];cases(mP _).2<;>rfl
       ·rw[zF he,if_neg he];rfl)
 ·rw[zF (p:=0<=at_/\at_<=(b.size:Int)) iq,eR,zD];by_cases h1:aK=1<;>by_cases h2:aK=2<;>by_cases h3:form=2<;>by_cases h4:form=3<;>(try(exfalso;omega))<;>by_cases h5:at_<0<;>by_cases h6:(b.size:Int)<at_<;>(try(exfalso;omega))<;>simp [h1,h2,h3,h4,h5,h6]
theorem zz2(n:Int):Q4 n=some (if n<0\/65535<n then 0 else if 255<n then 3 else if 127<n then 2 else 1):=by
 unfold Q4 xm;by_cases h1:n<0
 ·rw[zT h1,if_pos (.inl h1)];rfl
 by_cases h2:(65535:Int)<n
 ·rw[zF h1,zT h2,if_pos (.inr h2)];rfl
 rw[zF h1,zF h2,if_neg (by omega)];by_cases h3:(255:Int)<n
 ·rw[zT h3,if_pos h3];rfl
 by_cases h4:(127:Int)<n
 ·rw[zF h3,zT h4,if_neg h3,if_pos h4];rfl
 ·rw[zF h3,zF h4,if_neg h3,if_neg h4];rfl
theorem Gc:∃k,bE=k+1+1+1:=⟨bE-3,by rw[zr]⟩
theorem RR{y:Int}(hy:zn y):dn .or .i64 (zW zI (0*2^min (8:Int).toNat 64)) (zW zI y)=y:=by obtain⟨k,rfl⟩:=uz hy;clear hy;revert k;decide+kernel
theorem aga(s:af)(hs:s.size<=9223372036854775000)(a:Int):Q3 s a=Fs s a:=by
 unfold Q3 s7 Fs Uq;by_cases h1:a<0
 ·rw[zT h1];rfl
 rw[zF h1,zD,zD];by_cases h2:(s.size:Int)<a
 ·rw[zT h2];rfl
 rw[zF h2,zD,zD];by_cases h3:a=(s.size:Int)
 ·rw[zT h3];rfl
 have wa:∀{R:Type} (x:ae R),zd a s.size x=x:=λx=>zm (by omega) (by omega);rw[zF h3,zD,zD];simp only[wa];obtain⟨x,hx⟩:=uz (Cu s a.toNat);have Gz:=x.2;have w1:zW zI (a+1)=a+1:=zk (by omega) (by omega);have w2:zW zI (x.1:Int)=(x.1:Int):=zk (by omega) (by omega);have w4:zW zI ((s.size:Int)-a)=(s.size:Int)-a:=zk (by omega) (by omega);have w5:zW zI ((s.size:Int)-(a+1))=(s.size:Int)-(a+1):=zk (by omega) (by omega);have w6:zW zI ((x.1:Int)-128)=(x.1:Int)-128:=zk (by omega) (by omega);have w7:zW zI ((x.1:Int)-127)=(x.1:Int)-127:=zk (by omega) (by omega);obtain⟨k,hk⟩:=Gc;simp only[hx,w2,w1,w4,w5,w6,w7,hk];by_cases h4:(127:Int)<(x.1:Int)
 ·rw[zT h4,zC,zF (by omega:¬(x.1:Int)<128),zD];by_cases h5:(x.1:Int)=129
  ·have wn:zW zI (0+1)=1:=rfl;simp only[h5];by_cases h6:(s.size:Int)-a<2
   ·have e1:((s.size:Int)-(a+1)<129-128):=by omega
    have e2:((s.size:Int)-a<129-127):=by omega
    rw[zT e1,zT e2];rfl
   ·have e1:¬((s.size:Int)-(a+1)<129-128):=by omega
    have e2:¬((s.size:Int)-a<129-127):=by omega
    have wb:∀{R:Type} (x:ae R),zd (a+1) s.size x=x:=λx=>zm (by omega) (by omega);have wc:∀{R:Type} (x:ae R),zd (zW zI (a+1+0)) s.size x=x:=λx=>by rw[ko,w1];exact wb x
    obtain⟨y,hy⟩:=uz (Cu s (a+1).toNat);have Vb:=y.2;have w3:zW zI (y.1:Int)=(y.1:Int):=zk (by omega) (by omega);have oz:=RR (y:=(y.1:Int)) ⟨by omega,by omega⟩;rw[w3] at oz;rw[zF e1,zF e2];have l1:nr (k+1+1+1) s (a+1) 0 (129-128) (129-128) 0=some (a+1,(y.1:Int),129-128):=by simp only[nr,s8];rw[show decide ((0:Int)<129-128)=true from rfl,zC,wc,wn,show decide ((1:Int)<129-128)=false from rfl,zD,ko,w1,hy,w3,oz]
    simp only[wb,hy,w3];show(nr (k+1+1+1) s (a+1) 0 (129-128) (129-128) 0).bind _=_;rw[l1,ap];unfold s9;dsimp only;rw[zz2,ap];by_cases h7:(y.1:Int)<128
    ·rw[if_neg (by omega),if_neg (by omega),if_neg (by omega),zT h7];rfl
    ·rw[if_neg (by omega),if_neg (by omega),if_pos (by omega),zF h7];have:zW zI (a+1+(129-128))=zW zI (a+2):=by congr 1;omega
     simp only[this];rfl
  ·by_cases h6:(x.1:Int)=130
   ·have wn:zW zI (0+1)=1:=rfl;have wm:zW zI (1+1)=2:=rfl;simp only[h6];by_cases h7:(s.size:Int)-a<3
    ·have e1:((s.size:Int)-(a+1)<130-128):=by omega
     have e2:((s.size:Int)-a<130-127):=by omega
     rw[zT e1,zT e2];rfl
    ·have e1:¬((s.size:Int)-(a+1)<130-128):=by omega
     have e2:¬((s.size:Int)-a<130-127):=by omega
     have wb:∀{R:Type} (x:ae R),zd (a+1) s.size x=x:=λx=>zm (by omega) (by omega);have w8:zW zI (a+2)=a+2:=zk (by omega) (by omega);have w9:zW zI (a+1+1)=a+2:=by rw[zk (by omega) (by omega)];omega
     have wd:∀{R:Type} (x:ae R),zd (a+2) s.size x=x:=λx=>zm (by omega) (by omega);obtain⟨y,hy⟩:=uz (Cu s (a+1).toNat);obtain⟨z,hz⟩:=uz (Cu s (a+2).toNat);have Vb:=y.2;have B6:=z.2;have w3:zW zI (y.1:Int)=(y.1:Int):=zk (by omega) (by omega);have OM:zW zI (z.1:Int)=(z.1:Int):=zk (by omega) (by omega);have oz:=RR (y:=(y.1:Int)) ⟨by omega,by omega⟩;have ob:=zpr (x:=(y.1:Int)) (y:=(z.1:Int)) ⟨by omega,by omega⟩ ⟨by omega,by omega⟩;rw[w3] at oz;rw[w3,OM] at ob;rw[zF e1,zF e2];have l1:nr (k+1+1+1) s (a+1) 0 (130-128) (130-128) 0=some (a+1,(y.1:Int)*256+(z.1:Int),130-128):=by simp only[nr,s8];rw[show decide ((0:Int)<130-128)=true from rfl,zC,wn,wm,show decide ((1:Int)<130-128)=true from rfl,zC,show decide ((2:Int)<130-128)=false from rfl,zD,ko,w1,wb,w9,wd,hy,hz,w3,OM,oz,ob]
     have w5':zW zI (256*(y.1:Int))=256*(y.1:Int):=zk (by omega) (by omega);have w6':zW zI (256*(y.1:Int)+(z.1:Int))=(y.1:Int)*256+(z.1:Int):=by rw[zk (by omega) (by omega)];omega
     simp only[wb,w8,wd,hy,hz,w3,OM,w5',w6'];show(nr (k+1+1+1) s (a+1) 0 (130-128) (130-128) 0).bind _=_;rw[l1,ap];unfold s9;dsimp only;rw[zz2,ap];by_cases h8:(y.1:Int)=0
     ·rw[if_neg (by omega),if_neg (by omega),zT h8];by_cases h9:(127:Int)<(y.1:Int)*256+(z.1:Int)
      ·rw[if_pos h9];rfl
      ·rw[if_neg h9];rfl
     ·rw[if_neg (by omega),if_pos (by omega),zF h8];have:zW zI (a+1+(130-128))=zW zI (a+3):=by congr 1;omega
      simp only[this];rfl
   ·rw[zF h5,zF h6];by_cases h7:(x.1:Int)=128
    ·rw[zT h7];rfl
    ·rw[zF h7,zT (by omega:(130:Int)<(x.1:Int))];rfl
 ·rw[zF h4,zD,zT (by omega:(x.1:Int)<128),zC,zF (by omega:¬(s.size:Int)-(a+1)<0),zD];have l1:nr (k+1+1+1) s (a+1) (x.1:Int) 0 0 0=some (a+1,(x.1:Int),0):=by simp only[nr,s8];rw[show decide ((0:Int)<0)=false from rfl,zD]
  show(nr (k+1+1+1) s (a+1) (x.1:Int) 0 0 0).bind _=_;rw[l1,ap];unfold s9;dsimp only;rw[zz2,ap,if_neg (by omega),if_neg (by omega),if_neg (by omega),ko,w1];rfl
abbrev eD:=Int×af×Unit
theorem ztq(l:List eD)(hl:l.length<=9223372036854775807)(t:Int):∀(m j k:Nat),j+m=l.length->m<k->Kf k l (l.length:Int) t (j:Int)=some (if t∈(l.drop j).map (λv=>v.1) then .inl true else .inr ())
 |m,j,0,_,hk=>by omega
 |0,j,k+1,hj,hk=>by unfold Kf Ut;rw[zF (by omega),aP (by omega)];rfl
 |m+1,j,k+1,hj,hk=>by
  have bS:j<l.length:=by omega
  have hg:∀d,l.getD j d=l[j]:=λd=>by rw[aq,au bS];rfl
  unfold Kf Ut;rw[zT (by omega),zC,zi bS,aw,hg,aM bS,bq];by_cases h:l[j].1=t
  ·rw[zT h,if_pos (by rw[h];exact aW)];rfl
  ·rw[zF h,zD,zu (by omega)];dsimp only;rw[ztq l hl t m (j+1) k (by omega) (by omega)];by_cases h2:t∈(l.drop (j+1)).map (λv=>v.1)
   ·rw[if_pos h2,if_pos (aG _ h2)]
   ·rw[if_neg h2,if_neg (λh3=>(aH.1 h3).elim (λe=>h e.symm) h2)]
theorem Qw(l:List eD)(hl:l.length<=maxLen)(t:Int):Mb l (l.length:Int) t=some (decide (t∈l.map λv=>v.1)):=by
 rw[zh] at hl;unfold Mb zsy;dsimp only;have:=ztq l hl t l.length 0 bE (by omega) (by rw[zr];omega);rw[show((0:Nat):Int)=(0:Int) from rfl,aO] at this;rw[this,ap];by_cases h:t∈l.map λv=>v.1
 ·rw[if_pos h,zT h];rfl
 ·rw[if_neg h,zF h];rfl
theorem QW(b:af)(hb:b.size<=9223372036854775000):∀(k:Nat) (t5:List eD) (t7:Int),t5.length<=5864062014805->Le k b t5 t7 (mD (t5.map λv=>v.1))=Hm k b t5 t7
 |0,_,_,_=>rfl
 |k+1,t5,t7,hl=>by
  unfold Le YB Hm Us;rw[ahz b hb];generalize decide (t7<(b.size:Int))=c0;cases c0 with
  |false=>rfl
  |true=>
   simp only[zC];cases Fq b t7 with
   |none=>rfl
   |some r1=>
    simp only[ap];generalize(!decide (r1.2.2=0))=c1;cases c1 with
    |true=>rfl
    |false=>
     simp only[zD];rw[aga b hb];cases Fs b r1.2.1 with
     |none=>rfl
     |some r2=>
      simp only[ap];generalize(!decide (r2.2.2=0))=c2;cases c2 with
      |true=>rfl
      |false=>
       simp only[zD];generalize decide (zW zI ((b.size:Int)-r2.2.1)<r2.1)=c3;cases c3 with
       |true=>rfl
       |false=>
        simp only[zD];rw[Qw t5 (by rw[zh];omega),ap];have e1:=VW (oo (.int .i64)) (λ_ _=>rfl) r1.1 (t5.map λv=>v.1);have e2:=VX (oo (.int .i64)) (λ_ _=>rfl) r1.1 (t5.map λv=>v.1);by_cases hm:r1.1∈t5.map λv=>v.1
        ·rw[e1.2 hm,zT hm];rfl
        ·rw[JC e1 hm,JC e2 hm,zF hm];simp only[zD];rw[z9l];have hs:(t5.map λv=>v.1)++ [r1.1]=(t5++ [((r1.1,(b.extract r2.2.1.toNat (zW zI (r2.2.1+r2.1)).toNat),()):eD)]).map λv=>v.1:=by simp
         rw[hs];by_cases hn:(t5.length+1)*24<=140737488355328
         ·rw[QW b hb k _ _ (by simp;omega)]
         ·have:decide ((t5.length+(ag ([(r1.1,(b.extract r2.2.1.toNat (zW zI (r2.2.1+r2.1)).toNat),())]:List eD)))*24<=140737488355328)=false:=zF (by simp;omega);simp only[this,zD]
theorem ahC(b:af)(hb:b.size<=9223372036854775000):Bk b=Ft b:=by unfold Bk YA Ft Ur;dsimp only;have:=QW b hb bE [] 0 (by simp);rw[show mD (([]:List eD).map λv=>v.1)=[] from rfl] at this;rw[this];rfl
theorem ajx(s:Spec)(x:af)(hx:x.size<=9223372036854775000):gP s x=uO s x:=by unfold gP Yi uO Lu;rw[SL,CS,ahX _ _ (by rw[zh];omega),zco _ _ (by rw[zh];omega),ahC x hx]
theorem acG(a b:Spec):tR a b=CD a b:=by
 unfold tR Yj CD Lv Dj Yk;rw[SL,CS,SL,CS,ajy,zcw];simp only[ap];by_cases h1:fZ a=0
 ·by_cases h2:fZ b=0
  ·simp only[h1,h2,decide_true,zC,ai,zD];by_cases h3:a.2.2.2.1<=b.2.2.2.1
   ·rw[zT h3,zF (by omega:¬b.2.2.2.1<a.2.2.2.1)];by_cases h4:b.2.2.2.2.1<=a.2.2.2.2.1
    ·rw[zT h4,zF (by omega:¬a.2.2.2.2.1<b.2.2.2.2.1)];simp only[zC,zD];by_cases h5:a.2.1=5
     ·simp [h5]
     ·by_cases h6:a.2.1=6
      ·simp [h6]
      ·by_cases h7:b.2.1=6
       ·simp [h5,h6,h7]
       ·simp [h5,h6,h7]
    ·rw[zF h4,zT (by omega:a.2.2.2.2.1<b.2.2.2.2.1)];rfl
   ·rw[zF h3,zT (by omega:b.2.2.2.1<a.2.2.2.1)];rfl
  ·simp [h1,h2]
 ·simp [h1]
theorem ahA(s:af)(hs:s.size<=9223372036854775000)(a:Int)(h0:0<=a)(h1:a<s.size):∃r,Fq s a=some r/\(r.2.2=0->a<r.2.1/\r.2.1<=s.size):=by
 unfold Fq Up;have wa:∀{R:Type} (x:ae R),zd a s.size x=x:=λx=>zm (by omega) (by omega);rw[zF (by omega:¬a<0),zF (by omega:¬(s.size:Int)<a),zF (by omega:¬a=(s.size:Int))];simp only[zD,wa];obtain⟨x,hx⟩:=uz (Cu s a.toNat);have w1:zW zI (a+1)=a+1:=zk (by omega) (by omega);have w4:zW zI ((s.size:Int)-a)=(s.size:Int)-a:=zk (by omega) (by omega);rw[hx,w1,w4];rcases zdb x with h|⟨h,HI⟩|⟨h,HI⟩
 ·rw[h];exact⟨_,rfl,λh=>by cases h⟩
 ·rw[h];exact⟨_,rfl,λ_=>⟨by show a<a+1;omega,by show a+1<=_;omega⟩⟩
 ·rw[h,ap];simp only[show decide ((2:Int)=0)=false from rfl,show decide ((2:Int)=1)=false from rfl,zD];by_cases h4:(s.size:Int)-a<2
  ·rw[zT h4];exact⟨_,rfl,λh=>by cases h⟩
  ·have wb:∀{R:Type} (x:ae R),zd (a+1) s.size x=x:=λx=>zm (by omega) (by omega);have w2:zW zI (a+2)=a+2:=zk (by omega) (by omega);rw[zF h4];simp only[zD,wb];generalize decide (ze s (a+1).toNat=0)=c1;generalize decide ((127:Int)<ze s (a+1).toNat)=c2;cases c1
   ·cases c2
    ·exact⟨_,rfl,λ_=>⟨by show a<zW zI (a+2);rw[w2];omega,by show zW zI (a+2)<=_;rw[w2];omega⟩⟩
    ·exact⟨_,rfl,λh=>by cases h⟩
   ·exact⟨_,rfl,λh=>by cases h⟩
theorem agb(s:af)(hs:s.size<=9223372036854775000)(a:Int)(h0:0<=a)(h1:a<=s.size):∃r,Fs s a=some r/\(r.2.2=0->a<r.2.1/\r.2.1<=s.size/\0<=r.1/\r.1<=65535):=by
 unfold Fs Uq;rw[zF (by omega:¬a<0),zF (by omega:¬(s.size:Int)<a)];simp only[zD];by_cases he:a=(s.size:Int)
 ·rw[zT he];exact⟨_,rfl,λh=>by cases h⟩
 have wa:∀{R:Type} (x:ae R),zd a s.size x=x:=λx=>zm (by omega) (by omega);rw[zF he];simp only[zD,wa];obtain⟨x,hx⟩:=uz (Cu s a.toNat);have Gz:=x.2;have w1:zW zI (a+1)=a+1:=zk (by omega) (by omega);have w2:zW zI (x.1:Int)=(x.1:Int):=zk (by omega) (by omega);have w4:zW zI ((s.size:Int)-a)=(s.size:Int)-a:=zk (by omega) (by omega);have w7:zW zI ((x.1:Int)-127)=(x.1:Int)-127:=zk (by omega) (by omega);simp only[hx,w2,w1,w4,w7];by_cases h4:(x.1:Int)<128
 ·rw[zT h4];exact⟨_,rfl,λ_=>⟨by show a<a+1;omega,by show a+1<=_;omega,by show(0:Int)<=(x.1:Int);omega,by show(x.1:Int)<=65535;omega⟩⟩
 rw[zF h4];have h08:∀i,zn (ze s i):=Cu s;by_cases h5:(x.1:Int)=129
 ·have wb:(s.size:Int)-a<(x.1:Int)-127\/∀{R:Type} (x:ae R),zd (a+1) s.size x=x:=by
   by_cases h:(s.size:Int)-a<(x.1:Int)-127
   ·exact .inl h
   ·exact .inr λx=>zm (by omega) (by omega)
  rw[zT h5];simp only[ai,zD,zC];by_cases h6:(s.size:Int)-a<(x.1:Int)-127
  ·rw[zT h6];exact⟨_,rfl,λh=>by cases h⟩
  ·have wb:∀{R:Type} (x:ae R),zd (a+1) s.size x=x:=λx=>zm (by omega) (by omega);have w8:zW zI (a+2)=a+2:=zk (by omega) (by omega);obtain⟨y,hy⟩:=uz (h08 (a+1).toNat);have Vb:=y.2;have w3:zW zI (y.1:Int)=(y.1:Int):=zk (by omega) (by omega);rw[zF h6];simp only[zD,wb,hy,w3,w8];generalize decide ((y.1:Int)<128)=c;cases c
   ·exact⟨_,rfl,λ_=>⟨by show a<a+2;omega,by show a+2<=_;omega,by show(0:Int)<=(y.1:Int);omega,by show(y.1:Int)<=65535;omega⟩⟩
   ·exact⟨_,rfl,λh=>by cases h⟩
 ·rw[zF h5];simp only[aV,zD,zC];by_cases h9:(x.1:Int)=130
  ·rw[zT h9];simp only[ai,zD];by_cases h6:(s.size:Int)-a<(x.1:Int)-127
   ·rw[zT h6];exact⟨_,rfl,λh=>by cases h⟩
   ·have wb:∀{R:Type} (x:ae R),zd (a+1) s.size x=x:=λx=>zm (by omega) (by omega);have w8:zW zI (a+2)=a+2:=zk (by omega) (by omega);have w9:zW zI (a+3)=a+3:=zk (by omega) (by omega);have wd:∀{R:Type} (x:ae R),zd (a+2) s.size x=x:=λx=>zm (by omega) (by omega);obtain⟨y,hy⟩:=uz (h08 (a+1).toNat);obtain⟨z,hz⟩:=uz (h08 (a+2).toNat);have Vb:=y.2;have B6:=z.2;have w3:zW zI (y.1:Int)=(y.1:Int):=zk (by omega) (by omega);have OM:zW zI (z.1:Int)=(z.1:Int):=zk (by omega) (by omega);have w5':zW zI (256*(y.1:Int))=256*(y.1:Int):=zk (by omega) (by omega);have w6':zW zI (256*(y.1:Int)+(z.1:Int))=256*(y.1:Int)+(z.1:Int):=zk (by omega) (by omega);rw[zF h6];simp only[zD,wb,w8,wd,hy,hz,w3,OM,w5',w6',w9];generalize decide ((y.1:Int)=0)=c;cases c
    ·exact⟨_,rfl,λ_=>⟨by show a<a+3;omega,by show a+3<=_;omega,by show(0:Int)<=256*(y.1:Int)+(z.1:Int);omega,by show 256*(y.1:Int)+(z.1:Int)<=65535;omega⟩⟩
    ·exact⟨_,rfl,λh=>by cases h⟩
  ·rw[zF h9];exact⟨_,rfl,λh=>by cases h⟩
theorem z9o(b:af)(hb:b.size<=1099511627776):∀(n:Nat) (k:Nat) (t5:List eD) (a:Int),0<=a->a<=b.size->(b.size:Int)-a<=n->n<k->t5.length+n<=2199023255552->∃r,Hm k b t5 a=some r
 |n,0,_,_,_,_,_,h,_=>by omega
 |n,k+1,t5,a,h0,h1,h2,h3,h4=>by
  unfold Hm Us;by_cases bS:a<(b.size:Int)
  ·obtain⟨r1,e1,p1⟩:=ahA b (by omega) a h0 bS;rw[zT bS,e1,ap,zC];by_cases z1:r1.2.2=0
   ·obtain⟨q1,q2⟩:=p1 z1;obtain⟨r2,e2,p2⟩:=agb b (by omega) r1.2.1 (by omega) q2;simp only[z1,decide_true,ai,zD];rw[e2,ap];by_cases z2:r2.2.2=0
    ·obtain⟨u1,u2,u3,u4⟩:=p2 z2;simp only[z2,decide_true,ai,zD];have w1:zW zI ((b.size:Int)-r2.2.1)=(b.size:Int)-r2.2.1:=zk (by omega) (by omega);have w2:zW zI (r2.2.1+r2.1)=r2.2.1+r2.1:=zk (by omega) (by omega);rw[w1,w2];by_cases z3:(b.size:Int)-r2.2.1<r2.1
     ·rw[zT z3];exact⟨_,rfl⟩
     ·rw[zF z3,zD,Qw t5 (by rw[zh];omega),ap];generalize decide (r1.1∈t5.map λv=>v.1)=c;cases c with
      |true=>exact⟨_,rfl⟩
      |false=>
       rw[zD,zT (by omega:0<=r2.2.1+r2.1),zT (by omega:r2.2.1+r2.1<=(((b.size:Nat):Int))),zT (by omega:0<=r2.2.1),zT (by omega:r2.2.1<=(((r2.2.1+r2.1).toNat:Nat):Int)),zT (by simp;omega)];simp only[zC];obtain⟨n,rfl⟩:∃n',n=n'+1:=⟨n-1,by omega⟩
       exact z9o b hb n k _ _ (by omega) (by omega) (by omega) (by omega) (by simp;omega)
    ·simp only[z2,decide_false,aV,zC];exact⟨_,rfl⟩
   ·simp only[z1,decide_false,aV,zC];exact⟨_,rfl⟩
  ·rw[zF bS];exact⟨_,rfl⟩
theorem zo1(b:af)(hb:b.size<=1099511627776):∃r,Ft b=some r:=by unfold Ft Ur;dsimp only;obtain⟨r,hr⟩:=z9o b hb b.size bE [] 0 (by omega) (by omega) (by omega) (by rw[zr];omega) (by simp;omega);rw[hr,ap];cases r<;>exact⟨_,rfl⟩
@[irreducible] def fK (s:Spec) (x:af):Int:=(uO s x).getD 0
theorem KR(s:Spec)(x:af)(hx:x.size<=1099511627776):uO s x=some (fK s x):=by
 have:∃v,uO s x=some v:=by
  unfold uO Lu;rw[CS,ap,zco _ _ (by rw[zh];omega),ap];obtain⟨r,hr⟩:=zo1 x hx;rw[hr,ap];generalize(!decide (fZ s=0))=c1;generalize decide ((x.size:Int)<s.2.2.2.1)=c2;generalize decide (s.2.2.2.2.1<(x.size:Int))=c3;generalize decide ((0:Int)<=yy s.2.1 (bl x) 0)=c4;generalize decide (s.2.1=6)=c5;cases c1<;>cases c2<;>cases c3<;>cases c4<;>cases c5<;>first|exact⟨_,rfl⟩|skip
  cases r with
  |inl r=>simp only[zD,zC,l7];cases(!decide (r.2.1=0))<;>exact⟨_,rfl⟩
  |inr r=>simp only[zD,zC,cc];cases(!decide (r.2.1=0))<;>exact⟨_,rfl⟩
 obtain⟨v,hv⟩:=this;unfold fK;rw[hv];rfl
theorem EO(s:Spec)(x:af)(hx:x.size<=1099511627776):gP s x=some (fK s x):=by rw[ajx s x (by omega),KR s x hx]
@[irreducible] def sB (a b:Spec):Bool:=(CD a b).getD false
theorem zcx(a b:Spec):CD a b=some (sB a b):=by
 have:∃v,CD a b=some v:=by unfold CD Lv;rw[CS,CS,zcw];simp only[ap];generalize(!decide (fZ a=0))=c1;generalize(!decide (fZ b=0))=c2;generalize decide (b.2.2.2.1<a.2.2.2.1)=c3;generalize decide (a.2.2.2.2.1<b.2.2.2.2.1)=c4;generalize decide (a.2.1=5)=c5;generalize decide (a.2.1=6)=c6;generalize decide (b.2.1=6)=c7;cases c1<;>cases c2<;>cases c3<;>cases c4<;>cases c5<;>cases c6<;>cases c7<;>exact⟨_,rfl⟩
 obtain⟨v,hv⟩:=this;unfold sB;rw[hv];rfl
theorem af1(a b:Spec):tR a b=some (sB a b):=by rw[acG,zcx]
abbrev dN:=Int×Int×Int×af×List fe×Unit
def dv(s:zf)(no:Int):Spec:=(oq s.2.2.1 no).getD lu
def eP(s:zf)(no:Int):Bool:=(oq s.2.2.1 no).isSome
theorem G7(s:zf)(no:Int)(hl:s.2.2.1.length<=maxLen):oc s no=some (dv s no,eP s no):=by rw[ak2 s no hl];unfold dv eP;cases oq s.2.2.1 no<;>rfl
theorem VT(s:zf)(no:Int):(nA s.2.2.1 no 0= -1/\eP s no=false/\dv s no=lu)\/(0<=nA s.2.2.1 no 0/\nA s.2.2.1 no 0<s.2.2.1.length/\eP s no=true/\s.2.2.1.getD (nA s.2.2.1 no 0).toNat lu=dv s no):=by
 unfold eP dv;rcases adZ s.2.2.1 no 0 (dw _) with⟨h1,h2⟩|⟨h1,h2,x,h3,h4⟩
 ·left;rw[h2];exact⟨h1,rfl,rfl⟩
 ·right;rw[h3];rw[Int.sub_zero] at h4;exact⟨h1,by omega,rfl,h4⟩
def mg(r:dN)(a b:zf):Bool:=
 (bif decide (r.1=3) then !decide (r.2.1=0) else !eP a r.2.1)||(bif decide (r.1=2) then !decide (r.2.2.1=0) else !eP b r.2.2.1)
def qL(r:dN):Bool:=(!decide (r.2.2.2.1=bs [])&& !decide (r.1=3))||(decide (0<(r.2.2.2.2.1.length:Int))&& !decide (r.1=5))
def rf(s:Spec):Bool:=decide (s.2.1=1)&&decide (s.2.2.1=1)
def nU:List fe->Spec->Spec->Int
 | [],_,_=>0
 |p::r,x,y=>bif !decide (fK x p.1=0) then fK x p.1 else bif !decide (fK y p.2.1=0) then fK y p.2.1 else nU r x y
def UI(l:List fe)(x y:Spec):Int:=bif(!decide ((C9 l).1=0)||decide ((l.length:Int)=0)) then 15 else nU l x y
def sd(r:dN)(x y:Spec):Int:=
 bif decide (r.1=1) then(bif sB y x then 0 else 6) else bif decide (r.1=3) then fK y r.2.2.2.1 else bif decide (r.1=4) then(bif rf x&&rf y then 0 else 6) else bif decide (r.1=5) then UI r.2.2.2.2.1 x y else 0
def mi(r:dN)(a b:zf):Int:=
 bif decide (r.1<1)||decide (5<r.1) then 1 else bif mg r a b then 9 else bif qL r then 3 else sd r (dv a r.2.1) (dv b r.2.2.1)
structure m7(l:List fe):Prop where
 len:l.length<=1000000
 sz:∀p∈l,p.1.size<=1099511627776/\p.2.1.size<=1099511627776
structure nF(r:dN):Prop where
 text:r.2.2.2.1.size<=1099511627776
 nR:m7 r.2.2.2.2.1
theorem amD(r:dN)(a b:zf)(ha:a.2.2.1.length<=maxLen)(hb:b.2.2.1.length<=maxLen):Bc r a b=some (dv a r.2.1,dv b r.2.2.1,bif mg r a b then 9 else 0):=by unfold Bc XY mg;rw[G7 a _ ha,G7 b _ hb];simp only[ap];generalize decide (r.1=3)=k3;generalize decide (r.1=2)=k2;generalize decide (r.2.1=0)=z1;generalize decide (r.2.2.1=0)=z2;generalize eP a r.2.1=h1;generalize eP b r.2.2.1=h2;cases k3<;>cases k2<;>cases z1<;>cases z2<;>cases h1<;>cases h2<;>rfl
theorem ahc(s:Spec):qR s=some (rf s):=by unfold qR XZ rf;generalize decide (s.2.1=1)=c1;generalize decide (s.2.2.1=1)=c2;cases c1<;>cases c2<;>rfl
def EK(v:Int):Sum Int Unit:=if v=0 then .inr () else .inl v
theorem PR(x y:Spec):∀(l:List fe) (i:Int),(∀p∈l,p.1.size<=1099511627776/\p.2.1.size<=1099511627776)->
 fa (λi (p:fe) (s:Unit) K=>((gP x p.1).bind λr2=>(bif(!decide (r2=0)) then some (Sum.inl r2) else((gP y p.2.1).bind λr3=>(bif(!decide (r3=0)) then some (Sum.inl r3) else K s))))) (λ_=>some (Sum.inr ())) l i ()=some (EK (nU l x y))
 | [],i,_=>rfl
 |p::r,i,h=>by
  obtain⟨h1,h2⟩:=h p aW;simp only[fa,nU];rw[EO x p.1 h1,ap];by_cases z1:fK x p.1=0
  ·rw[zT z1];simp only[ai,zD];rw[EO y p.2.1 h2,ap];by_cases z2:fK y p.2.1=0
   ·rw[zT z2];simp only[ai,zD];exact PR x y r (i+1) λq hq=>h q (aG _ hq)
   ·rw[zF z2];simp only[aV,zC,EK,if_neg z2]
  ·rw[zF z1];simp only[aV,zC,EK,if_neg z1]
theorem akP(l:List fe)(x y:Spec)(h:m7 l):uJ l x y=some (UI l x y):=by
 have hl:=h.len;unfold uJ X3 UI;dsimp only;rw[z124 l (by rw[zh];omega),ap];cases(!decide ((C9 l).1=0)) with
 |true=>rfl
 |false=>
  cases decide ((l.length:Int)=0) with
  |true=>rfl
  |false=>
   simp only[zD,jS];have:=jz qI l (by rw[zh];omega) (λi (p:fe) (s:Unit) K=>((gP x p.1).bind λr2=>(bif(!decide (r2=0)) then some (Sum.inl r2) else((gP y p.2.1).bind λr3=>(bif(!decide (r3=0)) then some (Sum.inl r3) else K s))))) (λ_=>some (Sum.inr ()))
    (λk i s=>TM k l (l.length:Int) i x y) (λk i s=>rfl) ()
   rw[this,PR x y l 0 h.sz,ap];unfold EK;by_cases z:nU l x y=0
   ·rw[if_pos z,z];rfl
   ·rw[if_neg z];rfl
theorem acE(r:dN)(a b:zf)(h:nF r)(ha:a.2.2.1.length<=maxLen)(hb:b.2.2.1.length<=maxLen):ww r a b=some (mi r a b):=by
 unfold ww XX mi sd qL;rw[amD r a b ha hb];simp only[ap,af1,EO _ _ h.text,ahc,akP _ _ _ h.nR];generalize mg r a b=e;generalize decide (r.1<1)=c1;generalize decide ((5:Int)<r.1)=c2;generalize decide (r.2.2.2.1=bs [])=t;generalize decide ((0:Int)<(r.2.2.2.2.1.length:Int))=p;generalize decide (r.1=1)=k1;generalize decide (r.1=3)=k3;generalize decide (r.1=4)=k4;generalize decide (r.1=5)=k5;generalize rf (dv a r.2.1)=p1;generalize rf (dv b r.2.2.1)=p2;generalize sB (dv b r.2.2.1) (dv a r.2.1)=w;cases c1<;>cases c2<;>first|rfl|skip
 cases e<;>first|rfl|skip
 cases t<;>cases p<;>cases k3<;>cases k5<;>first|rfl|skip
 all_goals(cases k1<;>cases k4<;>cases p1<;>cases p2<;>cases w<;>rfl)
def vG(v:Int):Sum Unit Int:=if v=0 then .inl () else .inr v
theorem zun(x y:Spec):∀(l:List fe) (i:Int),(∀p∈l,p.1.size<=1099511627776/\p.2.1.size<=1099511627776)->
 fa (λi (p:fe) (s:Unit) K=>((uO x p.1).bind λr2=>(bif(!decide (r2=0)) then some (Sum.inr r2) else((uO y p.2.1).bind λr3=>(bif(!decide (r3=0)) then some (Sum.inr r3) else K s))))) (λ_=>some (Sum.inl ())) l i ()=some (vG (nU l x y))
 | [],i,_=>rfl
 |p::r,i,h=>by
  obtain⟨h1,h2⟩:=h p aW;simp only[fa,nU];rw[KR x p.1 h1,ap];by_cases z1:fK x p.1=0
  ·rw[zT z1];simp only[ai,zD];rw[KR y p.2.1 h2,ap];by_cases z2:fK y p.2.1=0
   ·rw[zT z2];simp only[ai,zD];exact zun x y r (i+1) λq hq=>h q (aG _ hq)
   ·rw[zF z2];simp only[aV,zC,vG,if_neg z2]
  ·rw[zF z1];simp only[aV,zC,vG,if_neg z1]
theorem acu(r:dN)(a b:zf)(h:nF r)(i k:Int)(HW:0<=i)(hi:i<a.2.2.1.length)(Gl:0<=k)(hk:k<b.2.2.1.length):
 C3 bE i k 0 r a b=some (vG (nU r.2.2.2.2.1 (a.2.2.1.getD i.toNat lu) (b.2.2.1.getD k.toNat lu))):=by
 have hl:=h.nR.len;have:=yh qI r.2.2.2.2.1 (by rw[zh];omega) (λj (p:fe) (s:Unit) K=>((uO (a.2.2.1.getD i.toNat lu) p.1).bind λr2=>(bif(!decide (r2=0)) then some (Sum.inr r2) else((uO (b.2.2.1.getD k.toNat lu) p.2.1).bind λr3=>(bif(!decide (r3=0)) then some (Sum.inr r3) else K s))))) (λ_=>some (Sum.inl ()))
  (λf j s=>C3 f i k j r a b) (λf j s h0 h1=>by
    show C3 (f+1) i k j r a b=_
    conv=>lhs;unfold C3 S9 V6 V7 V8
    have wi:∀{R:Type} (x:ae R),zd i a.2.2.1.length x=x:=λx=>zm HW hi;have wk:∀{R:Type} (x:ae R),zd k b.2.2.1.length x=x:=λx=>zm Gl hk;have wj:∀{R:Type} (x:ae R),zd j r.2.2.2.2.1.length x=x:=λx=>zm h0 h1;rw[zT h1];simp only[zC,wi,wk,wj];rfl) (λf s=>by
    show C3 (f+1) i k r.2.2.2.2.1.length r a b=_
    conv=>lhs;unfold C3 S9
    rw[zF (by omega),zD]) ()
 rw[this];exact zun _ _ _ 0 h.nR.sz
theorem adn(r:dN)(a b:zf)(h:nF r)(ha:a.2.2.1.length<=maxLen)(hb:b.2.2.1.length<=maxLen):AN r a b=some (mi r a b):=by
 unfold AN K5;have h0:∀t,zv5 t r a b=bif t then some 1 else Wy r a b:=λt=>by cases t<;>rfl
 simp only[h0];unfold mi;by_cases c1:r.1<1
 ·rw[zT c1];rfl
 by_cases c2:(5:Int)<r.1
 ·rw[zF c1,zT c2];rfl
 rw[zF c1,zF c2];simp only[zD,jS];have e2:∀i k t,Hb i k t r a b=bif t then some 9 else Tl i k r a b:=λi k t=>by cases t<;>rfl
 have e4:∀i k t,zv6 i k t r a b=bif t then some 9 else JM i k r a b:=λi k t=>by cases t<;>rfl
 have e6:∀i k t,zv7 i k t r a b=bif t then some 3 else Tm i k r a b:=λi k t=>by cases t<;>rfl
 have e9:∀t,zv8 t=some (bif t then 6 else 0):=λt=>by cases t<;>rfl
 have hi:=VT a r.2.1;have hk:=VT b r.2.2.1;have ei:decide (nA a.2.2.1 r.2.1 0<0)= !eP a r.2.1:=by
  rcases hi with⟨h1,h2,_⟩|⟨h1,_,h2,_⟩
  ·rw[h1,h2];rfl
  ·rw[h2,zF (by omega)];rfl
 have ek:decide (nA b.2.2.1 r.2.2.1 0<0)= !eP b r.2.2.1:=by
  rcases hk with⟨h1,h2,_⟩|⟨h1,_,h2,_⟩
  ·rw[h1,h2];rfl
  ·rw[h2,zF (by omega)];rfl
 unfold Wy z85;rw[VK a _ ha,ap,VK b _ hb,ap];generalize NB:nA a.2.2.1 r.2.1 0=i at*;generalize hkk:nA b.2.2.1 r.2.2.1 0=k at*;have s3:Tl i k r a b=bif(bif decide (r.1=2) then !decide (r.2.2.1=0) else !eP b r.2.2.1) then some 9 else JM i k r a b:=by unfold Tl K6;simp only[e4,ek];generalize decide (r.1=2)=k2;generalize decide (r.2.2.1=0)=z;generalize eP b r.2.2.1=hh;cases k2<;>cases z<;>cases hh<;>rfl
 have s1:(bif decide (r.1=3) then bif !decide (r.2.1=0) then Hb i k true r a b else bif !decide (r.1=3) then Hb i k (decide (i<0)) r a b else Hb i k false r a b
  else bif !decide (r.1=3) then Hb i k (decide (i<0)) r a b else Hb i k false r a b)=bif mg r a b then some 9 else JM i k r a b:=by
  simp only[e2,s3,ei];unfold mg;generalize decide (r.1=3)=k3;generalize decide (r.2.1=0)=z;generalize eP a r.2.1=hh;generalize(bif decide (r.1=2) then !decide (r.2.2.1=0) else !eP b r.2.2.1)=w;cases k3<;>cases z<;>cases hh<;>cases w<;>rfl
 have s5:JM i k r a b=bif qL r then some 3 else Tm i k r a b:=by unfold JM z87 qL;simp only[e6];generalize decide (r.2.2.2.1=bs [])=t;generalize decide ((0:Int)<(r.2.2.2.2.1.length:Int))=p;generalize decide (r.1=3)=k3;generalize decide (r.1=5)=k5;cases t<;>cases p<;>cases k3<;>cases k5<;>rfl
 refine Eq.trans s1 ?_;cases hE:mg r a b with
 |true=>rfl
 |false=>
  rw[zD,zD,s5];cases qL r with
  |true=>rfl
  |false=>
   rw[zD,zD];unfold Tm K7 sd;have g1:r.1=1\/r.1=4\/r.1=5->eP a r.2.1=true:=λhr=>by
    unfold mg at hE;rw[zF (by omega:¬r.1=3)] at hE;cases hh:eP a r.2.1 with
    |true=>rfl
    |false=>rw[hh] at hE;simp at hE
   have g2:r.1≠2->eP b r.2.2.1=true:=λhr=>by
    unfold mg at hE;rw[zF hr] at hE;cases hh:eP b r.2.2.1 with
    |true=>rfl
    |false=>rw[hh] at hE;simp at hE
   have hA:eP a r.2.1=true->0<=i/\i<a.2.2.1.length/\a.2.2.1.getD i.toNat lu=dv a r.2.1:=λhh=>by
    rcases hi with⟨_,h2,_⟩|⟨h1,h2,_,h3⟩
    ·rw[h2] at hh;cases hh
    ·exact⟨h1,h2,h3⟩
   have hB:eP b r.2.2.1=true->0<=k/\k<b.2.2.1.length/\b.2.2.1.getD k.toNat lu=dv b r.2.2.1:=λhh=>by
    rcases hk with⟨_,h2,_⟩|⟨h1,h2,_,h3⟩
    ·rw[h2] at hh;cases hh
    ·exact⟨h1,h2,h3⟩
   by_cases k1:r.1=1
   ·obtain⟨a1,a2,a3⟩:=hA (g1 (.inl k1));obtain⟨b1,b2,b3⟩:=hB (g2 (by omega));rw[zT k1,zC,zC,zm b1 b2,zm a1 a2,a3,b3,zcx,ap];cases sB (dv b r.2.2.1) (dv a r.2.1)<;>rfl
   rw[zF k1,zD,zD];by_cases k3:r.1=3
   ·obtain⟨b1,b2,b3⟩:=hB (g2 (by omega));rw[zT k3,zC,zC,zm b1 b2,b3,KR _ _ h.text];rfl
   rw[zF k3,zD,zD];by_cases k4:r.1=4
   ·obtain⟨a1,a2,a3⟩:=hA (g1 (.inr (.inl k4)));obtain⟨b1,b2,b3⟩:=hB (g2 (by omega));rw[zT k4,zC,zC,zm a1 a2,zm b1 b2];simp only[a3,b3,e9];unfold rf;generalize decide ((dv a r.2.1).2.1=1)=d1;generalize decide ((dv a r.2.1).2.2.1=1)=d2;generalize decide ((dv b r.2.2.1).2.1=1)=d3;generalize decide ((dv b r.2.2.1).2.2.1=1)=d4;cases d1<;>cases d2<;>cases d3<;>cases d4<;>rfl
   rw[zF k4,zD,zD];by_cases k5:r.1=5
   ·obtain⟨a1,a2,a3⟩:=hA (g1 (.inr (.inr k5)));obtain⟨b1,b2,b3⟩:=hB (g2 (by omega));have Kr:∀t,zo3 i k t r a b=bif t then some 15 else S8 i k r a b:=λt=>by cases t<;>rfl
    have Ks:S8 i k r a b=some (nU r.2.2.2.2.1 (dv a r.2.1) (dv b r.2.2.1)):=by
     unfold S8 V5;dsimp only;rw[acu r a b h i k a1 a2 b1 b2,ap,a3,b3];unfold vG;by_cases z:nU r.2.2.2.2.1 (dv a r.2.1) (dv b r.2.2.1)=0
     ·rw[if_pos z,z];rfl
     ·rw[if_neg z];rfl
    have hl:=h.nR.len;rw[zT k5,zC,zC,adl _ (by rw[zh];omega),ap];simp only[Kr,Ks];unfold UI;generalize(!decide ((C9 r.2.2.2.2.1).1=0))=d1;generalize decide ((r.2.2.2.2.1.length:Int)=0)=d2;cases d1<;>cases d2<;>rfl
   ·rw[zF k5];rfl
@[irreducible] def Cm (x:af):Int:=((Ft x).map λr=>aA (λ(w:cQ×Int×Int)=>w.2.1) (λ(w:cQ×Int×Int)=>w.2.1) r).getD 0
theorem Ti(s:Spec)(x:af)(hx:x.size<=1099511627776):fK s x=0↔fZ s=0/\s.2.2.2.1<=(x.size:Int)/\(x.size:Int)<=s.2.2.2.2.1/\(bl x).all (rA s.2.1)=true/\(s.2.1=6->Cm x=0):=by
 have h:=KR s x hx;unfold uO Lu at h;rw[CS,ap,zco _ _ (by rw[zh];omega),ap] at h;obtain⟨r,hr⟩:=zo1 x hx;have ht:Cm x=aA (λ(w:cQ×Int×Int)=>w.2.1) (λ(w:cQ×Int×Int)=>w.2.1) r:=by unfold Cm;rw[hr];rfl
 rw[hr,ap] at h;by_cases c1:fZ s=0
 ·rw[zT c1,ai,zD] at h;by_cases c2:(x.size:Int)<s.2.2.2.1
  ·rw[zT c2,zC] at h;have:=cA h;exact⟨λe=>by omega,λe=>by omega⟩
  rw[zF c2,zD] at h;by_cases c3:s.2.2.2.2.1<(x.size:Int)
  ·rw[zT c3,zC] at h;have:=cA h;exact⟨λe=>by omega,λe=>by omega⟩
  rw[zF c3,zD] at h;have hf:=znf s.2.1 (bl x) 0 (dw _);by_cases c4:(0:Int)<=yy s.2.1 (bl x) 0
  ·rw[zT c4,zC] at h;have:=cA h;exact⟨λe=>by omega,λe=>absurd e.2.2.2.1 (hf.1 c4)⟩
  rw[zF c4,zD] at h;have kG:(bl x).all (rA s.2.1)=true:=by
   cases hq:(bl x).all (rA s.2.1) with
   |true=>rfl
   |false=>exact absurd (hf.2 (by rw[hq];decide)) c4
  by_cases c5:s.2.1=6
  ·rw[zT c5,zC] at h;have key:(bif(!decide (Cm x=0)) then some (13:Int) else some 0)=some (fK s x):=by
    rw[<-h];cases r with
    |inl r=>rw[l7] at ht⊢;rw[<-ht]
    |inr r=>rw[cc] at ht⊢;rw[<-ht]
   by_cases c6:Cm x=0
   ·rw[zT c6] at key;have:=cA key;exact⟨λ_=>⟨c1,by omega,by omega,kG,λ_=>c6⟩,λ_=>this.symm⟩
   ·rw[zF c6] at key;have:=cA key;exact⟨λe=>by omega,λe=>absurd (e.2.2.2.2 c5) c6⟩
  ·rw[zF c5,zD] at h;have:=cA h;exact⟨λ_=>⟨c1,by omega,by omega,kG,λe=>absurd e c5⟩,λ_=>this.symm⟩
 ·rw[zF c1,aV,zC] at h;have:=cA h;exact⟨λe=>by omega,λe=>absurd e.1 c1⟩
theorem akY(a b:Spec):sB a b=true↔fZ a=0/\fZ b=0/\a.2.2.2.1<=b.2.2.2.1/\b.2.2.2.2.1<=a.2.2.2.2.1/\(a.2.1=5\/(a.2.1=6/\b.2.1=6)\/(a.2.1≠5/\a.2.1≠6/\b.2.1≠6/\E7 a.2.1 b.2.1=true)):=by
 have h:=zcx a b;unfold CD Lv at h;rw[CS,CS,zcw] at h;simp only[ap] at h;by_cases c1:fZ a=0
 ·rw[zT c1,ai,zD] at h;by_cases c2:fZ b=0
  ·rw[zT c2,ai,zD] at h;by_cases c3:b.2.2.2.1<a.2.2.2.1
   ·rw[zT c3,zC] at h;have:=cA h;exact⟨λe=>(by rw[e] at this;cases this),λe=>by omega⟩
   rw[zF c3,zD] at h;by_cases c4:a.2.2.2.2.1<b.2.2.2.2.1
   ·rw[zT c4,zC] at h;have:=cA h;exact⟨λe=>(by rw[e] at this;cases this),λe=>by omega⟩
   rw[zF c4,zD] at h;by_cases c5:a.2.1=5
   ·rw[zT c5,zC] at h;have:=cA h;exact⟨λ_=>⟨c1,c2,by omega,by omega,.inl c5⟩,λ_=>this.symm⟩
   rw[zF c5,zD] at h;by_cases c6:a.2.1=6
   ·rw[zT c6,zC] at h;have:=cA h;rw[<-this,decide_eq_true_eq];exact⟨λe=>⟨c1,c2,by omega,by omega,.inr (.inl ⟨c6,by omega⟩)⟩,λe=>by omega⟩
   rw[zF c6,zD] at h;by_cases c7:b.2.1=6
   ·rw[zT c7,zC] at h;have:=cA h;rw[<-this,decide_eq_true_eq];exact⟨λe=>by omega,λe=>by omega⟩
   rw[zF c7,zD] at h;have:=cA h;rw[<-this];refine⟨λe=>⟨c1,c2,by omega,by omega,.inr (.inr ⟨c5,c6,c7,e⟩)⟩,λe=> ?_⟩;rcases e.2.2.2.2 with e|e|e
   ·exact absurd e c5
   ·exact absurd e.1 c6
   ·exact e.2.2.2
  ·rw[zF c2,aV,zC] at h;have:=cA h;exact⟨λe=>(by rw[e] at this;cases this),λe=>absurd e.2.1 c2⟩
 ·rw[zF c1,aV,zC] at h;have:=cA h;exact⟨λe=>(by rw[e] at this;cases this),λe=>absurd e.1 c1⟩
theorem zny{s:Spec}(h:fZ s=0):(2<=s.1/\s.1<=128)/\(1<=s.2.1/\s.2.1<=6)/\(1<=s.2.2.1/\s.2.2.1<=3)/\(1<=s.2.2.2.1/\s.2.2.2.1<=s.2.2.2.2.1/\s.2.2.2.2.1<=999)/\(s.2.2.1=1->s.2.2.2.1=s.2.2.2.2.1)/\¬(s.2.2.1=1/\s.2.1=6):=by
 unfold fZ at h;split at h
 ·omega
 split at h
 ·omega
 split at h
 ·omega
 split at h
 ·omega
 split at h
 ·omega
 ·omega
theorem am7:∀a b:Fin 7,E7 (a.1:Int) (b.1:Int)=true->a.1≠5->a.1≠6->b.1≠6->(a.1=b.1\/(a.1=3/\(b.1=1\/b.1=2))\/(a.1=4/\(b.1=1\/b.1=2\/b.1=3))):=by decide+kernel
theorem ahP{a b:Int}(h:E7 a b=true)(h5:a≠5)(h6:a≠6)(h7:b≠6):a=b\/(a=3/\(b=1\/b=2))\/(a=4/\(b=1\/b=2\/b=3)):=by
 have hr:1<=a/\a<=6/\1<=b/\b<=6:=by unfold E7 at h;rw[ar,decide_eq_true_eq] at h;exact h.1
 obtain⟨x,rfl⟩:=ztw ⟨hr.1,hr.2.1⟩;obtain⟨y,rfl⟩:=ztw ⟨hr.2.2.1,hr.2.2.2⟩;have:=am7 x y h (by omega) (by omega) (by omega);omega
theorem akj{a b x:Int}(h:a=b\/(a=3/\(b=1\/b=2))\/(a=4/\(b=1\/b=2\/b=3)))(hx:rA b x=true):rA a x=true:=by
 rcases h with rfl|⟨rfl,rfl|rfl⟩|⟨rfl,rfl|rfl|rfl⟩
 ·exact hx
 all_goals
  simp [rA] at hx⊢;omega
theorem aki(x:Int):rA 5 x=true:=by simp [rA]
theorem aet{y x:Spec}{t:af}(ht:t.size<=1099511627776)(hw:sB y x=true)(hv:fK x t=0):fK y t=0:=by
 obtain⟨w1,w2,w3,w4,w5⟩:=(akY y x).1 hw;obtain⟨v1,v2,v3,v4,v5⟩:=(Ti x t ht).1 hv;refine(Ti y t ht).2 ⟨w1,by omega,by omega,?_,?_⟩
 ·rcases w5 with e|e|e
  ·rw[e,aY];exact λb _=>aki b
  ·rw[e.1,<-e.2];exact v4
  ·rw[aY] at v4⊢;exact λb hb=>akj (ahP e.2.2.2 e.1 e.2.1 e.2.2.1) (v4 b hb)
 ·intro e6;rcases w5 with e|e|e
  ·omega
  ·exact v5 e.2
  ·exact absurd e6 e.2.1
theorem amL:rA 1=jQ:=by funext b;simp [rA,jQ]
theorem amo(l:List Int):l.all (rA 1)=fg l:=by rw[amL];rfl
theorem RV{t:af}{w:Int}(h:(nZ t w).2=true):1<=w/\w<=999/\(((nZ t w).1).size:Int)=w/\fg (bl (nZ t w).1)=true:=by
 by_cases hc:1<=t.size/\t.size<=999/\fg (bl t)=true/\1<=w/\w<=999
 ·rw[SF hc] at h⊢;by_cases h4:(t.size:Int)<=w
  ·rw[zT h4,zC];have hd:fg (aB (w-t.size).toNat 48++bl t)=true:=by
    have e:fg (aB (w-t.size).toNat 48++bl t)=(fg (aB (w-t.size).toNat 48)&&fg (bl t)):=kI ..;have e2:fg (aB (w-t.size).toNat 48)=true:=by rw[fg,aY];intro x hx;rw[(List.mem_replicate.1 hx).2];rfl
    rw[e,e2,hc.2.2.1];rfl
   refine⟨hc.2.2.2.1,hc.2.2.2.2,?_,?_⟩
   ·rw[CV,aJ,fF,zg];omega
   ·rw[Cy (Ql hd)];exact hd
  ·rw[zF h4,zD] at h⊢;cases hz:od ((bl t).take (t.size-w.toNat)) with
   |false=>rw[hz] at h;cases h
   |true=>
    rw[zC];have hd:fg ((bl t).drop (t.size-w.toNat))=true:=by rw[fg,aY];intro x hx;exact aY.1 hc.2.2.1 x (iP hx)
    refine⟨hc.2.2.2.1,hc.2.2.2.2,?_,?_⟩
    ·rw[CV,bW,zg];omega
    ·rw[Cy (Ql hd)];exact hd
 ·rw[LB hc] at h;cases h
theorem aea{s:Spec}(h:rf s=true):s.2.1=1/\s.2.2.1=1:=by unfold rf at h;rw[ar,decide_eq_true_eq,decide_eq_true_eq] at h;exact h
abbrev wS:eD:=(0,bs [],())
def oN(r:dN)(b:zf)(t:af):eD×Int:=
 bif decide (r.1=1) then((r.2.2.1,t,()),0) else bif decide (r.1=2) then(wS,0) else bif decide (r.1=3) then((r.2.2.1,r.2.2.2.1,()),0)
 else bif decide (r.1=4) then(bif !eP b r.2.2.1 then(wS,9) else bif !(nZ t (dv b r.2.2.1).2.2.2.1).2 then(wS,5) else((r.2.2.1,(nZ t (dv b r.2.2.1).2.2.2.1).1,()),0))
 else bif decide (r.1=5) then(bif !(zw r.2.2.2.2.1 t).2 then(wS,15) else((r.2.2.1,(zw r.2.2.2.2.1 t).1,()),0)) else(wS,1)
theorem acD(r:dN)(b:zf)(t:af)(hp:r.2.2.2.2.1.length<=maxLen)(hb:b.2.2.1.length<=maxLen)(ht:t.size<=maxLen):wv r b t=some (oN r b t):=by unfold wv XW oN;rw[G7 b _ hb,ap,am9 t _ ht,ap,ab6 _ _ hp,ap];generalize decide (r.1=1)=k1;generalize decide (r.1=2)=k2;generalize decide (r.1=3)=k3;generalize decide (r.1=4)=k4;generalize decide (r.1=5)=k5;generalize eP b r.2.2.1=h;generalize nZ t (dv b r.2.2.1).2.2.2.1=p;generalize zw r.2.2.2.2.1 t=q;obtain⟨p1,p2⟩:=p;obtain⟨q1,q2⟩:=q;cases k1<;>cases k2<;>cases k3<;>cases k4<;>cases k5<;>cases h<;>cases p2<;>cases q2<;>rfl
theorem Wd{s:zf}{no:Int}(h:eP s no=true):dv s no∈s.2.2.1/\(dv s no).1=no:=by
 unfold eP at h;unfold dv;cases hf:oq s.2.2.1 no with
 |none=>rw[hf] at h;cases h
 |some x=>unfold oq at hf;exact⟨cn hf,by simpa using jd hf⟩
theorem VZ{s:zf}(h:qd s){no:Int}(hh:eP s no=true):fZ (dv s no)=0:=h.2.2.2.1 _ (Wd hh).1
theorem zcz{l:List fe}{t:af}(h:(zw l t).2=true):∃p∈l,p.1=t/\(zw l t).1=p.2.1:=by
 unfold zw at h⊢;cases hf:l.find? λp=>decide (p.1=t) with
 |none=>rw[hf] at h;cases h
 |some p=>exact⟨p,cn hf,by simpa using jd hf,rfl⟩
theorem PV:∀{l:List fe} {x y:Spec},nU l x y=0->∀p∈l,fK x p.1=0/\fK y p.2.1=0
 | [],x,y,h,p,hp=>by cases hp
 |q::l,x,y,h,p,hp=>by
  unfold nU at h;by_cases h1:fK x q.1=0
  ·rw[zT h1,ai,zD] at h;by_cases h2:fK y q.2.1=0
   ·rw[zT h2,ai,zD] at h;rcases aH.1 hp with rfl|hp
    ·exact⟨h1,h2⟩
    ·exact PV h p hp
   ·rw[zF h2,aV,zC] at h;exact absurd h h2
  ·rw[zF h1,aV,zC] at h;exact absurd h h1
theorem VH{r:dN}{a b:zf}(h:mi r a b=0):(1<=r.1/\r.1<=5)/\mg r a b=false/\qL r=false/\sd r (dv a r.2.1) (dv b r.2.2.1)=0:=by
 unfold mi at h;by_cases c1:r.1<1
 ·rw[zT c1] at h;cases h
 by_cases c2:5<r.1
 ·rw[zT c2,Bool.or_true] at h;cases h
 rw[zF c1,zF c2,jS,zD] at h;cases he:mg r a b with
 |true=>rw[he] at h;cases h
 |false=>
  rw[he,zD] at h;cases ht:qL r with
  |true=>rw[ht] at h;cases h
  |false=>rw[ht,zD] at h;exact⟨by omega,rfl,rfl,h⟩
theorem zhg{r:dN}{a b:zf}(h:mg r a b=false):(r.1=3->r.2.1=0)/\(r.1≠3->eP a r.2.1=true)/\(r.1=2->r.2.2.1=0)/\(r.1≠2->eP b r.2.2.1=true):=by
 unfold mg at h;rw[cF] at h;obtain⟨h1,h2⟩:=h;refine⟨λe=> ?_,λe=> ?_,λe=> ?_,λe=> ?_⟩
 ·rw[zT e,zC] at h1;simpa using h1
 ·rw[zF e,zD] at h1;simpa using h1
 ·rw[zT e,zC] at h2;simpa using h2
 ·rw[zF e,zD] at h2;simpa using h2
theorem acQ{r:dN}{a b:zf}{t:af}(ht:t.size<=1099511627776)(hr:nF r)(hc:mi r a b=0)(hb:qd b)(hv:eP a r.2.1=true->fK (dv a r.2.1) t=0):
 ((oN r b t).2≠0->((r.1=4/\(oN r b t).2=5)\/(r.1=5/\(oN r b t).2=15))/\(oN r b t).1=wS)/\
 ((oN r b t).2=0->(r.1=2->(oN r b t).1=wS)/\(r.1≠2->(oN r b t).1.1=r.2.2.1/\eP b r.2.2.1=true/\fK (dv b r.2.2.1) (oN r b t).1.2.1=0)):=by
 obtain⟨c1,c2,c3,c4⟩:=VH hc;obtain⟨e1,e2,e3,e4⟩:=zhg c2;unfold sd at c4;have hk:r.1=1\/r.1=2\/r.1=3\/r.1=4\/r.1=5:=by omega
 unfold oN;rcases hk with k|k|k|k|k
 ·rw[zT k,zC] at c4⊢;refine⟨λh=>absurd rfl h,λ_=>⟨λe=>by omega,λ_=>⟨rfl,e4 (by omega),?_⟩⟩⟩;cases hw:sB (dv b r.2.2.1) (dv a r.2.1) with
  |false=>rw[hw] at c4;cases c4
  |true=>exact aet ht hw (hv (e2 (by omega)))
 ·rw[zF (by omega:¬r.1=1),zT k,zD,zC];exact⟨λh=>absurd rfl h,λ_=>⟨λ_=>rfl,λe=>absurd k e⟩⟩
 ·rw[zF (by omega:¬r.1=1),zT k,zD,zC] at c4;rw[zF (by omega:¬r.1=1),zF (by omega:¬r.1=2),zT k,zD,zD,zC];exact⟨λh=>absurd rfl h,λ_=>⟨λe=>by omega,λ_=>⟨rfl,e4 (by omega),c4⟩⟩⟩
 ·rw[zF (by omega:¬r.1=1),zF (by omega:¬r.1=3),zT k,zD,zD,zC] at c4;rw[zF (by omega:¬r.1=1),zF (by omega:¬r.1=2),zF (by omega:¬r.1=3),zT k,zD,zD,zD,zC,e4 (by omega),ai,zD];have hy:=VZ hb (e4 (by omega));have hpd:rf (dv b r.2.2.1)=true:=by
   cases hp:(rf (dv a r.2.1)&&rf (dv b r.2.2.1)) with
   |false=>rw[hp] at c4;cases c4
   |true=>exact(Bool.and_eq_true_iff.1 hp).2
  obtain⟨y1,y2⟩:=aea hpd;obtain⟨_,_,_,f4,f5,_⟩:=zny hy;cases hp:(nZ t (dv b r.2.2.1).2.2.2.1).2 with
  |false=>exact⟨λ_=>⟨.inl ⟨k,rfl⟩,rfl⟩,λe=>by cases e⟩
  |true=>
   obtain⟨p1,p2,p3,p4⟩:=RV hp;rw[ai,zD];refine⟨λh=>absurd rfl h,λ_=>⟨λe=>by omega,λ_=>⟨rfl,rfl,?_⟩⟩⟩;have:=f5 y2;refine(Ti _ _ (by show(nZ t (dv b r.2.2.1).2.2.2.1).1.size<=1099511627776;omega)).2 ⟨hy,?_,?_,?_,λe=>by omega⟩
   ·show _<=((nZ t (dv b r.2.2.1).2.2.2.1).1.size:Int);omega
   ·show((nZ t (dv b r.2.2.1).2.2.2.1).1.size:Int)<=_;omega
   ·rw[y1,amo];exact p4
 ·rw[zF (by omega:¬r.1=1),zF (by omega:¬r.1=3),zF (by omega:¬r.1=4),zT k,zD,zD,zD,zC] at c4;rw[zF (by omega:¬r.1=1),zF (by omega:¬r.1=2),zF (by omega:¬r.1=3),zF (by omega:¬r.1=4),zT k,zD,zD,zD,zD,zC];unfold UI at c4;cases hp:(zw r.2.2.2.2.1 t).2 with
  |false=>exact⟨λ_=>⟨.inr ⟨k,rfl⟩,rfl⟩,λe=>by cases e⟩
  |true=>
   rw[ai,zD];refine⟨λh=>absurd rfl h,λ_=>⟨λe=>by omega,λ_=>⟨rfl,e4 (by omega),?_⟩⟩⟩;obtain⟨p,hm,_,hq⟩:=zcz hp;show fK _ (zw r.2.2.2.2.1 t).1=0;rw[hq];cases hz:(!decide ((C9 r.2.2.2.2.1).1=0)||decide ((r.2.2.2.2.1.length:Int)=0)) with
   |true=>rw[hz] at c4;cases c4
   |false=>rw[hz,zD] at c4;exact(PV c4 p hm).2
end eL

set_option profiler true
set_option profiler.threshold 2000
namespace eL
open Go.IntKind renaming wrap->zW,i64->zI,u8->zU
open Go Go.Ref
def ly(aK c:Int):Int:=if aK=2/\c=1 then 1 else if aK=1/\(c=5\/c=6) then 2 else 0
def qo(h:Int)(n:Nat):Nat:=if h=1 then(n+1)/2 else if h=2 then 2*n else n
def uX(h:Int)(t:af)(n:Int):Sum Int af:=if h=1 then(if(z21 t n).2.1=0 then .inr (z21 t n).1 else .inl (z21 t n).2.1) else if h=2 then(if(vV t).2.2=true then .inr (vV t).1 else .inl 3) else .inr t
def yf(s:Spec)(z:Int):Sum Int af->af×Int×Int
 | .inl e=>(bs [],0,e)
 | .inr t=>if fK s t=0 then(t,z,0) else(bs [],0,fK s t)
def CY(h:Int)(s:Spec)(b:af)(n a:Nat):af×Int×Int:=
 if b.size<a+qo h n then(bs [],0,2) else yf s ((a+qo h n:Nat):Int) (uX h (b.extract a (a+qo h n)) n)
def Jk(aK:Int)(s:Spec)(b:af)(at_:Int):Sum Int (Nat×Nat):=
 if s.2.2.1=1 then .inr (s.2.2.2.1.toNat,at_.toNat) else if¬(tM aK s.2.2.1 b at_).2.2=0 then .inl (tM aK s.2.2.1 b at_).2.2 else
  if(tM aK s.2.2.1 b at_).1<s.2.2.2.1\/s.2.2.2.2.1<(tM aK s.2.2.1 b at_).1 then .inl 5 else .inr ((tM aK s.2.2.1 b at_).1.toNat,(tM aK s.2.2.1 b at_).2.1.toNat)
def F8(h:Int)(s:Spec)(b:af):Sum Int (Nat×Nat)->af×Int×Int
 | .inl e=>(bs [],0,e)
 | .inr q=>CY h s b q.1 q.2
def yu(aK:Int)(s:Spec)(b:af)(at_:Int):af×Int×Int:=
 if(aK=1\/aK=2)/\fZ s=0/\0<=at_/\at_<=b.size then F8 (ly aK s.2.1) s b (Jk aK s b at_) else(bs [],0,1)
theorem ztu(aK c:Int):s4 aK c=some (ly aK c):=by unfold s4 Zp ly;by_cases h1:aK=1<;>by_cases h2:aK=2<;>by_cases h3:c=1<;>by_cases h4:c=5<;>by_cases h5:c=6<;>(try(exfalso;omega))<;>simp [h1,h2,h3,h4,h5]
theorem ztv(aK c:Int):ly aK c=0\/ly aK c=1\/ly aK c=2:=by
 unfold ly;split
 ·exact .inr (.inl rfl)
 ·split
  ·exact .inr (.inr rfl)
  ·exact .inl rfl
theorem Y9{s:Spec}(h:fZ s=0):1<=s.2.1/\s.2.1<=6/\1<=s.2.2.1/\s.2.2.1<=3/\1<=s.2.2.2.1/\s.2.2.2.1<=s.2.2.2.2.1/\s.2.2.2.2.1<=999/\(s.2.2.1=2->s.2.2.2.2.1<=99)/\(s.2.2.1=1->s.2.2.2.1=s.2.2.2.2.1):=by
 unfold fZ at h;split at h
 ·cases h
 split at h
 ·cases h
 split at h
 ·cases h
 split at h
 ·cases h
 refine⟨by omega,by omega,by omega,by omega,by omega,by omega,by omega,λe=>by omega,λe=>by omega⟩
theorem Qx:∀l:List Int,(oW l).length<=l.length
 | []=>by simp [oW]
 | [a]=>by simp [oW]
 |a::b::r=>by rw[oW,aF,aF,aF];have:=Qx r;omega
theorem ac5(s:af):(vV s).1.size<=s.size:=by
 unfold vV;split
 ·exact bR _
 ·split
  ·exact bR _
  ·rw[CV,<-zg];exact Qx _
theorem ahg{aK form:Int}{b:af}{at_:Int}(h:(tM aK form b at_).2.2=0):0<=(tM aK form b at_).2.1/\(tM aK form b at_).2.1<=b.size:=by
 unfold tM at h⊢;cases hk:(oJ aK form&&decide (0<=at_/\at_<=(b.size:Int))) with
 |false=>rw[hk] at h;cases h
 |true=>
  rw[hk] at h;simp only[zC] at h⊢;split
  ·exact⟨dw _,Int.natCast_nonneg _⟩
  ·rename_i hs;split
   ·dsimp only;exact⟨by omega,by omega⟩
   ·exact⟨dw _,Int.natCast_nonneg _⟩
def rQ(rB:Int)(zR:Spec)(uv:af)(n a:Int):ae Kq:=
 let K:af->Int->Int->ae Kq:=λa0 a1 a2=>some (a0,a1,a2)
 ((s4 rB zR.2.1).bind λr4=>(bif(decide (r4=(1:Int))) then((Q2 n).bind λr5=>(bif(decide ((zW zI (((uv).size:Int)-a))<r5)) then(K (bs []) (0:Int) (2:Int)) else(bif(decide ((0:Int)<=(zW zI (a+r5)))) then(bif(decide ((zW zI (a+r5))<=(((uv).size:Nat):Int))) then(bif(decide ((0:Int)<=a)) then(bif(decide (a<=((((zW zI (a+r5))).toNat:Nat):Int))) then((s4 rB zR.2.1).bind λr6=>(bif(decide (r6=(1:Int))) then((Q0 ((uv).extract (a).toNat ((zW zI (a+r5))).toNat) n).bind λr7=>(bif(!(decide (r7.2.1=(0:Int)))) then(K (bs []) (0:Int) r7.2.1) else((gP zR r7.1).bind λr8=>(bif(!(decide (r8=(0:Int)))) then(K (bs []) (0:Int) r8) else(K r7.1 (zW zI (a+r5)) (0:Int)))))) else(bif(decide (r6=(2:Int))) then((pj ((uv).extract (a).toNat ((zW zI (a+r5))).toNat)).bind λr9=>(bif(!r9.2.2) then(K (bs []) (0:Int) (3:Int)) else((gP zR r9.1).bind λum=>(bif(!(decide (um=(0:Int)))) then(K (bs []) (0:Int) um) else(K r9.1 (zW zI (a+r5)) (0:Int)))))) else((gP zR ((uv).extract (a).toNat ((zW zI (a+r5))).toNat)).bind λvC=>(bif(!(decide (vC=(0:Int)))) then(K (bs []) (0:Int) vC) else(K ((uv).extract (a).toNat ((zW zI (a+r5))).toNat) (zW zI (a+r5)) (0:Int))))))) else none) else none) else none) else none))) else(bif(decide (r4=(2:Int))) then(bif(decide ((zW zI (((uv).size:Int)-a))<(zW zI ((2:Int)*n)))) then(K (bs []) (0:Int) (2:Int)) else(bif(decide ((0:Int)<=(zW zI (a+(zW zI ((2:Int)*n)))))) then(bif(decide ((zW zI (a+(zW zI ((2:Int)*n))))<=(((uv).size:Nat):Int))) then(bif(decide ((0:Int)<=a)) then(bif(decide (a<=((((zW zI (a+(zW zI ((2:Int)*n))))).toNat:Nat):Int))) then((s4 rB zR.2.1).bind λyj=>(bif(decide (yj=(1:Int))) then((Q0 ((uv).extract (a).toNat ((zW zI (a+(zW zI ((2:Int)*n))))).toNat) n).bind λvP=>(bif(!(decide (vP.2.1=(0:Int)))) then(K (bs []) (0:Int) vP.2.1) else((gP zR vP.1).bind λCO=>(bif(!(decide (CO=(0:Int)))) then(K (bs []) (0:Int) CO) else(K vP.1 (zW zI (a+(zW zI ((2:Int)*n)))) (0:Int)))))) else(bif(decide (yj=(2:Int))) then((pj ((uv).extract (a).toNat ((zW zI (a+(zW zI ((2:Int)*n))))).toNat)).bind λAp=>(bif(!Ap.2.2) then(K (bs []) (0:Int) (3:Int)) else((gP zR Ap.1).bind λCP=>(bif(!(decide (CP=(0:Int)))) then(K (bs []) (0:Int) CP) else(K Ap.1 (zW zI (a+(zW zI ((2:Int)*n)))) (0:Int)))))) else((gP zR ((uv).extract (a).toNat ((zW zI (a+(zW zI ((2:Int)*n))))).toNat)).bind λEC=>(bif(!(decide (EC=(0:Int)))) then(K (bs []) (0:Int) EC) else(K ((uv).extract (a).toNat ((zW zI (a+(zW zI ((2:Int)*n))))).toNat) (zW zI (a+(zW zI ((2:Int)*n)))) (0:Int))))))) else none) else none) else none) else none)) else(bif(decide ((zW zI (((uv).size:Int)-a))<n)) then(K (bs []) (0:Int) (2:Int)) else(bif(decide ((0:Int)<=(zW zI (a+n)))) then(bif(decide ((zW zI (a+n))<=(((uv).size:Nat):Int))) then(bif(decide ((0:Int)<=a)) then(bif(decide (a<=((((zW zI (a+n))).toNat:Nat):Int))) then((s4 rB zR.2.1).bind λED=>(bif(decide (ED=(1:Int))) then((Q0 ((uv).extract (a).toNat ((zW zI (a+n))).toNat) n).bind λzQ=>(bif(!(decide (zQ.2.1=(0:Int)))) then(K (bs []) (0:Int) zQ.2.1) else((gP zR zQ.1).bind λCQ=>(bif(!(decide (CQ=(0:Int)))) then(K (bs []) (0:Int) CQ) else(K zQ.1 (zW zI (a+n)) (0:Int)))))) else(bif(decide (ED=(2:Int))) then((pj ((uv).extract (a).toNat ((zW zI (a+n))).toNat)).bind λCi=>(bif(!Ci.2.2) then(K (bs []) (0:Int) (3:Int)) else((gP zR Ci.1).bind λOy=>(bif(!(decide (Oy=(0:Int)))) then(K (bs []) (0:Int) Oy) else(K Ci.1 (zW zI (a+n)) (0:Int)))))) else((gP zR ((uv).extract (a).toNat ((zW zI (a+n))).toNat)).bind λOz=>(bif(!(decide (Oz=(0:Int)))) then(K (bs []) (0:Int) Oz) else(K ((uv).extract (a).toNat ((zW zI (a+n))).toNat) (zW zI (a+n)) (0:Int))))))) else none) else none) else none) else none)))))
theorem amu(aK:Int)(s:Spec)(b:af)(n a:Nat)(hb:b.size<=1099511627776)(hn:n<=999)(ha:a<=b.size)(hh:ly aK s.2.1=0):rQ aK s b n a=some (CY (ly aK s.2.1) s b n a):=by
 unfold rQ;simp only[ztu,zc];have w0:zW zI ((b.size:Int)-(a:Int))=(b.size:Int)-a:=zk (by omega) (by omega);have w1:∀z:Nat,z<=2000->zW zI ((a:Int)+(z:Int))=((a+z:Nat):Int):=λz hz=>by rw[zk (by omega) (by omega)];omega
 have hx:∀z:Nat,((a+z:Nat):Int).toNat=a+z:=λz=>aw _;have Kv:∀z:Nat,(b.extract a (a+z)).size<=1099511627776:=λz=>by rw[b9];omega
 rw[hh];simp only[dJ,decide_true,decide_false,zC,zD,w0,w1 n (by omega),hx,aw];unfold CY qo uX;simp only[show¬((0:Int)=1) from by decide,show¬((0:Int)=2) from by decide,if_false];split
 ·rename_i hc;rw[zT (by omega),zC]
 ·rename_i hc;rw[zF (by omega),zD,zT (by omega),zC,zT (by omega),zC,zT (by omega),zC,zT (by omega),zC,EO _ _ (Kv n),zc];unfold yf;by_cases hv:fK s (b.extract a (a+n))=0
  ·simp only[hv,decide_true,ai,zD,if_true]
  ·simp only[hv,decide_false,aV,zC,if_false]
theorem amv(aK:Int)(s:Spec)(b:af)(n a:Nat)(hb:b.size<=1099511627776)(hn:n<=999)(ha:a<=b.size)(hh:ly aK s.2.1=1):rQ aK s b n a=some (CY (ly aK s.2.1) s b n a):=by
 unfold rQ;simp only[ztu,zc];have w0:zW zI ((b.size:Int)-(a:Int))=(b.size:Int)-a:=zk (by omega) (by omega);have w1:∀z:Nat,z<=2000->zW zI ((a:Int)+(z:Int))=((a+z:Nat):Int):=λz hz=>by rw[zk (by omega) (by omega)];omega
 have hx:∀z:Nat,((a+z:Nat):Int).toNat=a+z:=λz=>aw _;have Kv:∀z:Nat,(b.extract a (a+z)).size<=1099511627776:=λz=>by rw[b9];omega
 rw[hh];have ez:((n:Int)+1)/2=(((n+1)/2:Nat):Int):=by omega
 simp only[dJ,decide_true,decide_false,zC,zD,SQ (n:Int) (by omega) (by omega),zc,ez];simp only[w0,w1 ((n+1)/2) (by omega),hx,aw,dJ,decide_true,decide_false,zC,zD];unfold CY qo uX;simp only[if_true];split
 ·rename_i hc;rw[zT (by omega),zC]
 ·rename_i hc;rw[zF (by omega),zD,zT (by omega),zC,zT (by omega),zC,zT (by omega),zC,zT (by omega),zC,zgx _ _ (Kv _),zc];generalize hg:z21 (b.extract a (a+(n+1)/2)) (n:Int)=g;obtain⟨t,e,i⟩:=g;have sF:=zad hg;dsimp only;by_cases he:e=0
  ·rw[zT he,ai,zD,if_pos he,EO _ _ (by omega),zc];unfold yf;by_cases hv:fK s t=0
   ·simp only[hv,decide_true,ai,zD,if_true]
   ·simp only[hv,decide_false,aV,zC,if_false]
  ·rw[zF he,aV,zC,if_neg he];rfl
theorem amw(aK:Int)(s:Spec)(b:af)(n a:Nat)(hb:b.size<=1099511627776)(hn:n<=999)(ha:a<=b.size)(hh:ly aK s.2.1=2):rQ aK s b n a=some (CY (ly aK s.2.1) s b n a):=by
 unfold rQ;simp only[ztu,zc];have w0:zW zI ((b.size:Int)-(a:Int))=(b.size:Int)-a:=zk (by omega) (by omega);have w1:∀z:Nat,z<=2000->zW zI ((a:Int)+(z:Int))=((a+z:Nat):Int):=λz hz=>by rw[zk (by omega) (by omega)];omega
 have hx:∀z:Nat,((a+z:Nat):Int).toNat=a+z:=λz=>aw _;have Kv:∀z:Nat,(b.extract a (a+z)).size<=1099511627776:=λz=>by rw[b9];omega
 rw[hh];have ez:zW zI ((2:Int)*(n:Int))=((2*n:Nat):Int):=by rw[zk (by omega) (by omega)];omega
 simp only[dJ,decide_true,decide_false,zD,zC];rw[ez];simp only[w0,w1 (2*n) (by omega),hx,aw,dJ,decide_true,decide_false,zC,zD];unfold CY qo uX;simp only[show¬((2:Int)=1) from by decide,if_false,if_true];split
 ·rename_i hc;rw[zT (by omega),zC]
 ·rename_i hc;rw[zF (by omega),zD,zT (by omega),zC,zT (by omega),zC,zT (by omega),zC,zT (by omega),zC,zts _ (Kv _),zc];have sF:=ac5 (b.extract a (a+2*n));have h3:=Kv (2*n);generalize vV (b.extract a (a+2*n))=g at sF;obtain⟨t,i,ok⟩:=g;dsimp only at sF⊢;cases ok with
  |true=>
   rw[ai,zD,if_pos rfl,EO _ _ (by omega),zc];unfold yf;by_cases hv:fK s t=0
   ·simp only[hv,decide_true,ai,zD,if_true]
   ·simp only[hv,decide_false,aV,zC,if_false]
  |false=>rw[aV,zC,if_neg (by decide)];rfl
theorem Qi(aK:Int)(s:Spec)(b:af)(n a:Nat)(hb:b.size<=1099511627776)(hn:n<=999)(ha:a<=b.size):rQ aK s b n a=some (CY (ly aK s.2.1) s b n a):=by
 rcases ztv aK s.2.1 with hh|hh|hh
 ·exact amu aK s b n a hb hn ha hh
 ·exact amv aK s b n a hb hn ha hh
 ·exact amw aK s b n a hb hn ha hh
theorem adF(aK:Int)(s:Spec)(b:af)(at_:Int)(hb:b.size<=1099511627776):LH aK s b at_=some (yu aK s b at_):=by
 have hk:Hv aK=some (decide (aK=1\/aK=2)):=by
  unfold Hv Uc;by_cases h1:aK=1
  ·rw[zT (p:=aK=1\/aK=2) (.inl h1),zT h1];rfl
  ·rw[zF h1,zD];by_cases h2:aK=2
   ·rw[zT (p:=aK=1\/aK=2) (.inr h2),zT h2]
   ·rw[zF (p:=aK=1\/aK=2) (λh=>h.elim h1 h2),zF h2]
 unfold LH Zk yu;rw[hk,zc];by_cases h1:aK=1\/aK=2
 case neg=>rw[zF h1,if_neg (λh=>h1 h.1)];rfl
 rw[zT h1,ai,zD,SL,zc];by_cases h2:fZ s=0
 case neg=>rw[zF h2,if_neg (λh=>h2 h.2.1)];rfl
 rw[zT h2,ai,zD];by_cases h3:at_<0
 ·rw[zT h3,if_neg (λh=>by omega)];rfl
 rw[zF h3,zD];by_cases h4:(b.size:Int)<at_
 ·rw[zT h4,if_neg (λh=>by omega)];rfl
 rw[zF h4,zD,if_pos ⟨h1,h2,by omega,by omega⟩];obtain⟨k1,k2,k3,k4,k5,k6,k7,k8,k9⟩:=Y9 h2;obtain⟨m,rfl⟩:∃m:Nat,at_=m:=⟨at_.toNat,by omega⟩
 unfold Jk;by_cases h5:s.2.2.1=1
 ·rw[zT h5,ai,zD,if_pos h5];have:=Qi aK s b s.2.2.2.1.toNat m hb (by omega) (by omega);rw[cU (by omega)] at this;exact this
 ·rw[zF h5,aV,zC,if_neg h5,ahf _ _ _ _ hb,zc];by_cases h6:(tM aK s.2.2.1 b m).2.2=0
  case neg=>rw[zF h6,if_pos h6];rfl
  rw[zT h6,ai,zD,if_neg (λh=>h h6)];have hp:=ahg h6;by_cases h7:(tM aK s.2.2.1 b m).1<s.2.2.2.1
  ·rw[zT h7,if_pos (.inl h7)];rfl
  rw[zF h7,zD];by_cases h8:s.2.2.2.2.1<(tM aK s.2.2.1 b m).1
  ·rw[zT h8,if_pos (.inr h8)];rfl
  rw[zF h8,zD,if_neg (λh=>h.elim h7 h8)];have:=Qi aK s b (tM aK s.2.2.1 b m).1.toNat (tM aK s.2.2.1 b m).2.1.toNat hb (by omega) (by omega);rw[cU (by omega),cU (by omega)] at this;exact this
def sM(h:Int)(t:af):af:=if h=1 then(yx t).1 else if h=2 then AD t else t
def sU(aK form:Int)(n:Nat):af:=if form=1 then bs [] else(Kj aK form n).1
def He(aK:Int)(s:Spec)(t:af):af×Int:=
 if¬(aK=1\/aK=2) then(bs [],1) else if¬fK s t=0 then(bs [],fK s t) else(sU aK s.2.2.1 t.size++sM (ly aK s.2.1) t,0)
theorem zgz(t:af):(yx t).1.size<=500:=by
 by_cases h:t.size<=999/\fg (bl t)=true
 ·rw[zaf h.1 h.2];omega
 ·unfold yx;rw[zF h];exact bR _
theorem PE(aK form:Int)(n:Nat):(sU aK form n).size<=500:=by
 unfold sU Kj;split
 ·exact bR _
 ·cases oJ aK form with
  |false=>exact bR _
  |true=>
   cases(rh (n:Int) form).2 with
   |false=>exact bR _
   |true=>
    show(if aK=2 then _ else _:af).size<=500;split
    ·exact zgz _
    ·have:=PG (n:Int) form;omega
theorem z105(h:Int)(t:af):(sM h t).size<=2*t.size+500:=by
 unfold sM;split
 ·have:=zgz t;omega
 ·split
  ·rw[zao];omega
  ·omega
theorem Jh(x:af):bs []++x=x:=by apply lJ;simp [dS,bs]
theorem adG(aK:Int)(s:Spec)(t:af)(ht:t.size<=1099511627776):Hu aK s t=some (He aK s t):=by
 unfold Hu Zm Hv Uc He;have mZ:=z105 (ly aK s.2.1) t;have qA:=PE aK s.2.2.1 t.size;have main:aK=1\/aK=2->(gP s t).bind (λr2=>(bif(!(decide (r2=(0:Int)))) then some (bs [],r2) else(bif(!(decide (s.2.2.1=(1:Int)))) then((yI aK s.2.2.1 ((t).size:Int)).bind λr3=>((s4 aK s.2.1).bind λr4=>(bif(decide (r4=(1:Int))) then((Q1 t).bind λr5=>(bif decide ((r3.1).size+(r5.1).size<=9223372036854775807) then some (r3.1++r5.1,(0:Int)) else none)) else(bif(decide (r4=(2:Int))) then((rH t).bind λr6=>(bif decide ((r3.1).size+(r6).size<=9223372036854775807) then some (r3.1++r6,(0:Int)) else none)) else(bif decide ((r3.1).size+(t).size<=9223372036854775807) then some (r3.1++t,(0:Int)) else none))))) else((s4 aK s.2.1).bind λr7=>(bif(decide (r7=(1:Int))) then((Q1 t).bind λr8=>(bif decide (((bs [])).size+(r8.1).size<=9223372036854775807) then some ((bs [])++r8.1,(0:Int)) else none)) else(bif(decide (r7=(2:Int))) then((rH t).bind λr9=>(bif decide (((bs [])).size+(r9).size<=9223372036854775807) then some ((bs [])++r9,(0:Int)) else none)) else(bif decide (((bs [])).size+(t).size<=9223372036854775807) then some ((bs [])++t,(0:Int)) else none)))))))=some (if¬fK s t=0 then(bs [],fK s t) else(sU aK s.2.2.1 t.size++sM (ly aK s.2.1) t,0)):=λhs=>by
  rw[EO s t ht,zc];by_cases hv:fK s t=0
  case neg=>rw[zF hv,if_pos hv];rfl
  rw[zT hv,ai,zD,if_neg (λh=>h hv)];simp only[ztu,zc,ahi _ _ _ (show(t.size:Int)<=9223372036854775807 by omega),zgy t (by simp only[maxLen];omega),ztt t ht];have hz:(bs []).size=0:=rfl;by_cases h1:s.2.2.1=1
  ·rw[zT h1,ai,zD];unfold sU;rw[if_pos h1];unfold sM at mZ⊢;rcases ztv aK s.2.1 with hh|hh|hh<;>rw[hh] at mZ⊢ <;>simp only[dJ,decide_true,decide_false,zC,zD,if_true,if_false] at mZ⊢
   all_goals rw[zT (by omega),zC]
  ·rw[zF h1,aV,zC];unfold sU at qA⊢;rw[if_neg h1] at qA⊢;unfold sM at mZ⊢;rcases ztv aK s.2.1 with hh|hh|hh<;>rw[hh] at mZ⊢ <;>simp only[dJ,decide_true,decide_false,zC,zD,if_true,if_false] at mZ⊢
   all_goals rw[zT (by omega),zC]
 by_cases h1:aK=1
 ·rw[zT h1,zC,zc,ai,zD,if_neg (λh=>h (.inl h1))];exact main (.inl h1)
 ·rw[zF h1,zD,zc];by_cases h2:aK=2
  ·rw[zT h2,ai,zD,if_neg (λh=>h (.inr h2))];exact main (.inr h2)
  ·rw[zF h2,if_pos (λh=>h.elim h1 h2)];rfl
theorem amE(x p y:af):(x++p++y).extract x.size (x.size+p.size)=p:=by apply Kg;rw[CU,yr,yr,bd,<-zg,<-zg,List.take_append,List.drop_append_of_le_length (by simp),];simp
theorem G9(x y:af):(x++y).size=x.size+y.size:=ci ..
theorem RI(b:af){i j k:Nat}(h:i<=j)(h2:j<=k):b.extract i j++b.extract j k=b.extract i k:=by
 apply Kg;rw[yr,CU,CU,CU];generalize bl b=l;have e1:l.take j=(l.take k).take j:=by rw[List.take_take];congr 1;omega
 rw[e1];generalize l.take k=q;rw[<-List.take_append_drop (j-i) (q.drop i),List.drop_take,List.drop_drop,show i+(j-i)=j by omega]
theorem Pf{s:af}{n:Int}(h:mP (bl s)=(n,true)):rh n s.size=(s,true)/\0<=n:=by
 unfold mP at h;split at h
 ·rename_i hc;obtain⟨h1,h2,h3⟩:=hc;have hv:nK (bl s) 0=n:=congrArg Prod.fst h;have hn:=(zum (bl s) 0 0 h3 (dw _) (by simp) (by omega)).1;rw[hv] at hn;obtain⟨e1,e2⟩:=Qk (bl s).length n.toNat (bl s) h3 rfl (by rw[hv,cU hn]);rw[zg] at e1 e2 h1 h2;refine⟨?_,hn⟩;rw[Jm ⟨hn,by omega,by omega,by rw[aw];exact e2⟩,aw,e1,JJ]
 ·cases h
theorem ahh{aK form:Int}:oJ aK form=true↔(aK=1\/aK=2)/\(form=2\/form=3):=by unfold oJ;rw[decide_eq_true_eq]
theorem aec{aK form n:Int}{s:af}(hk:oJ aK form=true)(h:Ch aK form s=some n)(hs:s.size=sV aK form):Kj aK form n=(s,0)/\0<=n:=by
 have HZ:=ahh.1 hk;unfold Ch at h;unfold sV at hs;unfold Kj;rw[hk,zC];by_cases h2:aK=2
 ·rw[if_pos h2] at h hs⊢;generalize hg:z21 s form=g at h;obtain⟨t,e,i⟩:=g;dsimp only at h;split at h
  case isFalse=>cases h
  rename_i he;subst he;obtain⟨a1,a2,a3⟩:=zzx hg (by omega);split at h
  case isFalse=>cases h
  rename_i ho;have hn:(mP (bl t)).1=n:=by simpa using h
  obtain⟨c1,c2⟩:=Pf (s:=t) (n:=n) (by rw[<-hn,<-ho]);rw[a2] at c1;rw[c1,zC];dsimp only;rw[a1];exact⟨rfl,c2⟩
 ·rw[if_neg h2] at h hs⊢;split at h
  case isFalse=>cases h
  rename_i ho;have hn:(mP (bl s)).1=n:=by simpa using h
  obtain⟨c1,c2⟩:=Pf (s:=s) (n:=n) (by rw[<-hn,<-ho]);rw[hs,cU (by omega)] at c1;rw[c1];exact⟨rfl,c2⟩
theorem ahj{aK form n z:Int}{b:af}{a:Nat}(h:tM aK form b a=(n,z,0)):oJ aK form=true/\0<=n/\a<=b.size/\z=((a+sV aK form:Nat):Int)/\a+sV aK form<=b.size/\Kj aK form n=(b.extract a (a+sV aK form),0):=by
 unfold tM at h;cases hk:(oJ aK form&&decide (0<=(a:Int)/\(a:Int)<=(b.size:Int))) with
 |false=>rw[hk] at h;cases h
 |true=>
  rw[hk,zC,aw] at h;rw[ar,decide_eq_true_eq] at hk;split at h
  ·cases h
  ·rename_i hs;split at h
   ·rename_i m hm;cases h;obtain⟨c1,c2⟩:=aec hk.1 hm (z59 (by omega));exact⟨hk.1,c2,by omega,rfl,by omega,c1⟩
   ·cases h
theorem agr{aK:Int}{s:Spec}{c t:af}{n:Nat}(hc:c.size=qo (ly aK s.2.1) n)(hn:n<=999)(h:uX (ly aK s.2.1) c n= .inr t):sM (ly aK s.2.1) t=c/\t.size=n:=by
 unfold uX at h;unfold qo at hc;unfold sM;rcases ztv aK s.2.1 with hh|hh|hh<;>rw[hh] at h hc⊢ <;>simp only[dJ,if_true,if_false] at h hc⊢
 ·injection h with h
  exact⟨h.symm,by rw[<-h];exact hc⟩
 ·split at h
  case isFalse=>cases h
  rename_i he;generalize hg:z21 c (n:Int)=g at h he;obtain⟨t',e,i⟩:=g;dsimp only at h he;subst he;injection h with h
  subst h;obtain⟨a1,a2,a3⟩:=zzx hg (by omega);exact⟨by rw[a1],by omega⟩
 ·split at h
  case isFalse=>cases h
  rename_i he;generalize hg:vV c=g at h he;obtain⟨t',i,ok⟩:=g;dsimp only at h he;subst he;injection h with h
  subst h;obtain⟨a1,a2⟩:=zho hg;exact⟨a1,by omega⟩
theorem ztb{aK z:Int}{s:Spec}{b t:af}{a:Nat}(hb:b.size<=1099511627776)(h:yu aK s b a=(t,z,0)):(aK=1\/aK=2)/\fK s t=0/\(a:Int)<=z/\z<=b.size/\t.size<=999/\(He aK s t).1=b.extract a z.toNat:=by
 unfold yu at h;split at h
 case isFalse=>cases h
 rename_i hc;obtain⟨hs,v1,ha0,ha1⟩:=hc;obtain⟨k1,k2,k3,k4,k5,k6,k7,k8,k9⟩:=Y9 v1;have body:∀(n p:Nat),n<=999->CY (ly aK s.2.1) s b n p=(t,z,0)->fK s t=0/\z=((p+qo (ly aK s.2.1) n:Nat):Int)/\p+qo (ly aK s.2.1) n<=b.size/\t.size=n/\sM (ly aK s.2.1) t=b.extract p (p+qo (ly aK s.2.1) n):=by
  intro n p hn h;unfold CY at h;split at h
  ·cases h
  ·rename_i bS;cases hg:uX (ly aK s.2.1) (b.extract p (p+qo (ly aK s.2.1) n)) (n:Int) with
   |inl e=>
    rw[hg] at h;replace h:(bs [],(0:Int),e)=(t,z,0):=h;injection h with _ h
    injection h with _ h
    exfalso;subst h;unfold uX at hg;split at hg
    ·split at hg
     ·cases hg
     ·rename_i fL;injection hg with hg
      exact fL hg
    ·split at hg
     ·split at hg<;>cases hg
     ·cases hg
   |inr t'=>
    rw[hg] at h;replace h:(if fK s t'=0 then(t',((p+qo (ly aK s.2.1) n:Nat):Int),(0:Int)) else(bs [],0,fK s t'))=(t,z,0):=h;split at h
    ·rename_i hv;cases h;obtain⟨c1,c2⟩:=agr (z59 (by omega)) hn hg;exact⟨hv,rfl,by omega,c2,c1⟩
    ·rename_i hv;injection h with _ h
     injection h with _ h
     exact absurd h hv
 have fin:fK s t=0->(He aK s t).1=sU aK s.2.2.1 t.size++sM (ly aK s.2.1) t:=λhv=>by unfold He;rw[if_neg (λh=>h hs),if_neg (λh=>h hv)]
 unfold Jk at h;by_cases hf:s.2.2.1=1
 ·rw[if_pos hf] at h;obtain⟨b1,b2,b3,b4,b5⟩:=body _ _ (by omega) h;rw[aw] at b2 b3 b5;refine⟨hs,b1,by omega,by omega,by omega,?_⟩;rw[fin b1,b5,b2,aw];unfold sU;rw[if_pos hf,Jh]
 ·rw[if_neg hf] at h;split at h
  ·rename_i he;unfold F8 at h;injection h with _ h
   injection h with _ h
   exact absurd h he
  ·rename_i he;split at h
   ·cases h
   ·rename_i hr;generalize hg:tM aK s.2.2.1 b (a:Int)=g at h he hr;obtain⟨n,z',e⟩:=g;dsimp only at h he hr;have he:e=0:=by
     by_cases e0:e=0
     ·exact e0
     ·exact absurd e0 he
    subst he;obtain⟨q1,q2,q3,q4,q5,q6⟩:=ahj hg;obtain⟨b1,b2,b3,b4,b5⟩:=body _ _ (by omega) h;dsimp only at b2 b3 b5;subst q4;rw[aw] at b2 b3 b5;refine⟨hs,b1,by omega,by omega,by omega,?_⟩;rw[fin b1,b5,b2,aw];have hpc:sU aK s.2.2.1 t.size=b.extract a (a+sV aK s.2.2.1):=by unfold sU;rw[if_neg hf,b4,cU q2,q6]
    rw[hpc,RI _ (by omega) (by omega)]
def wT(n:Nat)(l:List Int):Nat:=l.foldl (λn c=>n*256+c.toNat) n
def sw(l:List Int):Nat:=wT 0 l
def tY(x:Nat):List Int:=[((x/72057594037927936 % 256:Nat):Int),((x/281474976710656 % 256:Nat):Int),((x/1099511627776 % 256:Nat):Int),((x/4294967296 % 256:Nat):Int),((x/16777216 % 256:Nat):Int),((x/65536 % 256:Nat):Int),((x/256 % 256:Nat):Int),((x % 256:Nat):Int)]
theorem zz3{x:Nat}(h:x<18446744073709551616):sw (tY x)=x:=by simp only[sw,wT,tY,List.foldl,aw];omega
theorem eight{l:List Int}(h:l.length=8):∃a b c d e f g i,l=[a,b,c,d,e,f,g,i]:=by
 match l,h with
 | [a,b,c,d,e,f,g,i],_=>exact⟨a,b,c,d,e,f,g,i,rfl⟩
def Uz:Nat->Nat->List Int
 |0,_=>[]
 |m+1,x=>Uz m (x/256)++ [((x % 256:Nat):Int)]
theorem ahM(l:List Int)(n:Nat)(c:Int):wT n (l++ [c])=wT n l*256+c.toNat:=by unfold wT;rw[dE];rfl
theorem zta:∀(m:Nat) (l:List Int),l.length=m->(∀y∈l,zn y)->Uz m (sw l)=l/\sw l<256^m
 |0,l,h,_=>by have:=List.length_eq_zero_iff.1 h;subst this;exact⟨rfl,by decide⟩
 |m+1,l,h,hb=>by
  obtain⟨q,c,rfl⟩:∃q c,l=q++ [c]:=by
   rcases List.eq_nil_or_concat l with e|⟨q,c,e⟩
   ·rw[e] at h;cases h
   ·exact⟨q,c,by rw[e,List.concat_eq_append]⟩
  obtain⟨i1,i2⟩:=zta m q (by rw[aJ,cj] at h;omega) λy hy=>hb y (dm _ hy);have hc:=hb c (dT _ (by simp));unfold zn at hc;unfold sw at i1 i2⊢;rw[ahM];generalize wT 0 q=v at i1 i2;refine⟨?_,by rw[jn];omega⟩;rw[Uz,show(v*256+c.toNat)/256=v by omega,i1,show(v*256+c.toNat)% 256=c.toNat by omega,cU hc.1]
theorem Nd(x:Nat):tY x=Uz 8 x:=by simp only[Uz,tY,kh,b6,List.cons_append]
theorem Ua{l:List Int}(h:l.length=8)(hb:∀y∈l,zn y):tY (sw l)=l/\sw l<18446744073709551616:=by obtain⟨h1,h2⟩:=zta 8 l h hb;rw[Nd];exact⟨h1,by rw[show(256:Nat)^8=18446744073709551616 from by decide] at h2;exact h2⟩
theorem Qh(x:Nat):∀y∈tY x,zn y:=by intro y hy;unfold tY at hy;simp only[aH,List.not_mem_nil,or_false] at hy;unfold zn;omega
theorem RE(x:Nat):(tY x).length=8:=rfl
theorem Wb{x:Nat}(hx:x<18446744073709551616):tY x=[0,0,0,0,0,0,0,0]↔x=0:=by
 constructor
 ·intro h;have:=zz3 hx;rw[h] at this;rw[<-this];rfl
 ·rintro rfl;rfl
theorem aoh(n:Nat):zW zU (n:Int)=((n % 256:Nat):Int):=by simp [IntKind.wrap,IntKind.signed,eX]
theorem G0(k x:Nat)(j:Nat)(hj:j<8)(p q:List Int):pK (k+1) (x:Int) (j:Int) p q=pK k (x:Int) ((j+1:Nat):Int) p (q.set j ((x/2^(8*(7-j))% 256:Nat):Int)):=by
 have e1:zW zI ((7:Int)-(j:Int))=((7-j:Nat):Int):=by rw[zk (by omega) (by omega)];omega
 have e2:zW zI ((8:Int)*((7-j:Nat):Int))=((8*(7-j):Nat):Int):=by rw[zk (by omega) (by omega)];omega
 conv=>lhs;unfold pK uN
 rw[zT (by omega),zC,e1,e2,zF (by omega),zD,zi hj,Tc x _ (by omega),aoh,zu (by omega),aw]
theorem agl(k x:Nat)(p q:List Int):pK (k+1) (x:Int) ((8:Nat):Int) p q=some (p,q):=by unfold pK uN;rw[zF (by omega)];rfl
theorem zpg(x:Nat):Q8 (x:Int)=some (tY x):=by
 obtain⟨k,hk⟩:∃k,bE=k+9:=⟨bE-9,by rw[zr]⟩
 unfold Q8 xE;dsimp only;rw[hk,show(0:Int)=((0:Nat):Int) from rfl,G0 _ x 0 (by decide),G0 _ x 1 (by decide),G0 _ x 2 (by decide),G0 _ x 3 (by decide),G0 _ x 4 (by decide),G0 _ x 5 (by decide),G0 _ x 6 (by decide),G0 _ x 7 (by decide),agl,zc];unfold xF tY;simp
theorem aob{n c:Nat}(hc:c<256):n*256|||c=n*256+c:=by have:=iY (i:=8) (b:=c) hc n;rw[show(2:Nat)^8=256 from rfl,Nat.mul_comm 256 n] at this;exact this.symm
theorem OQ(l:List Int)(hl:l.length=8)(hb:∀y∈l,zn y):∀(m j k n:Nat),j+m=8->m<k->n<256^j->rL k (n:Int) l (j:Int)=some ((wT n (l.drop j):Nat):Int)
 |m,j,0,n,_,hk,_=>by omega
 |0,j,k+1,n,hj,hk,_=>by unfold rL uM;rw[zF (by omega),zD,aP (by omega)];rfl
 |m+1,j,k+1,n,hj,hk,hn=>by
  have bS:j<l.length:=by omega
  have hc:=hb _ (cB bS);unfold zn at hc;have hg:l.getD j 0=l[j]:=by rw[aq,au bS];rfl
  have hp:(256:Nat)^j<=256^7:=cO (by decide) (by omega);have hp7:(256:Nat)^7=72057594037927936:=by decide
  obtain⟨c,Kt⟩:∃c:Nat,l[j]=(c:Int):=⟨l[j].toNat,by omega⟩
  unfold rL uM;rw[zT (by omega),zC,zi (by omega),aw,hg,Kt,zu (by omega)];have e1:IntKind.u64.wrap ((n:Int)*2^min ((8:Int)).toNat 64)=((n*256:Nat):Int):=by
   have:((n:Int)*2^min ((8:Int)).toNat 64)=((n*256:Nat):Int):=by rw[show min ((8:Int)).toNat 64=8 from rfl,show(2:Int)^8=256 from by decide];omega
   rw[this];exact Ln (by omega)
  rw[e1,Ln (by omega),Ew (by omega) (by omega),aob (by omega)];dsimp only;have NP:n*256+c<256^(j+1):=by rw[jn];omega
  rw[OQ l hl hb m (j+1) k _ (by omega) (by omega) NP,aM bS,Kt];rfl
theorem RB(l:List Int)(hl:l.length=8)(hb:∀y∈l,zn y):Q7 l=some ((sw l:Nat):Int):=by unfold Q7 xB;have:=OQ l hl hb 8 0 bE 0 (by omega) (by rw[zr];omega) (by decide);rw[show((0:Nat):Int)=0 from rfl,aO] at this;dsimp only;rw[this];rfl
def pE(aK:Int):Nat:=if aK=1 then 16 else 8
def vJ(aK:Int)(b:af)(a:Nat):Sum Int Nat:=
 if b.size<a+pE aK then .inl 2 else if aK=1 then(if(vV (b.extract a (a+pE aK))).2.2=true then .inr (sw (bl (vV (b.extract a (a+pE aK))).1)) else .inl 3) else .inr (sw (bl (b.extract a (a+pE aK))))
def Cl(a:Nat)(aK:Int):Sum Int Nat->List Int×Int×Int
 | .inl e=>(aB 8 0,0,e)
 | .inr x=>(tY x,((a+pE aK:Nat):Int),0)
theorem F9{t:af}(h:t.size=8):gQ (aB 8 (0:Int)) (aI 8 (vT t)) 0=tY (sw (bl t)):=by
 have hl:(bl t).length=8:=by rw[zg];exact h
 rw[(Ua hl λy hy=>sY hy).1];have lR:vT t=bl t:=rfl;rw[lR];obtain⟨a,b,c,d,e,f,g,i,hq⟩:=eight hl;rw[hq];rfl
theorem BI{s t:af}{i:Int}(h:vV s=(t,i,true))(hs:s.size=16):t.size=8:=by have:=(zho h).2;omega
theorem R5(aK:Int)(b:af)(a:Nat)(hb:b.size<=1099511627776)(ha:a<=b.size)(hs:aK=1\/aK=2):Kk aK b a=some (Cl a aK (vJ aK b a)):=by
 have w0:zW zI ((b.size:Int)-(a:Int))=(b.size:Int)-a:=zk (by omega) (by omega);have w8:zW zI ((a:Int)+8)=((a+8:Nat):Int):=by rw[zk (by omega) (by omega)];omega
 have w16:zW zI ((a:Int)+16)=((a+16:Nat):Int):=by rw[zk (by omega) (by omega)];omega
 have wm:zW zI ((8:Int)*2)=16:=by decide
 unfold Kk Zg vJ pE;rcases hs with rfl|rfl
 ·simp only[dJ,decide_true,zC,wm,w0,w16,if_true,aw];split
  ·rename_i hc;rw[zT (by omega)];rfl
  ·rename_i hc;rw[zF (by omega),zD,zT (by omega),zC,zT (by omega),zC,zT (by omega),zC,zT (by omega),zC,zts _ (by rw[b9];omega),zc];generalize hg:vV (b.extract a (a+16))=g;obtain⟨t,i,ok⟩:=g;cases ok with
   |false=>rfl
   |true=>have ht:=BI hg (z59 (by omega));dsimp only;rw[ai,zD,if_pos rfl,F9 ht];rfl
 ·simp only[dJ,decide_false,zD,w0,w8,if_false,aw];split
  ·rename_i hc;rw[zT (by omega)];rfl
  ·rename_i hc;rw[zF (by omega),zD,zT (by omega),zC,zT (by omega),zC,zT (by omega),zC,zT (by omega),zC,F9 (z59 (by omega))];rfl
theorem Jg{aK:Int}{b:af}{a x:Nat}(hs:aK=1\/aK=2)(h:vJ aK b a= .inr x):x<18446744073709551616/\a+pE aK<=b.size:=by
 unfold vJ pE at h;unfold pE;rcases hs with rfl|rfl
 ·simp only[if_true] at h⊢;split at h
  ·cases h
  ·split at h
   case isFalse=>cases h
   rename_i hc ho;injection h with h
   generalize hg:vV (b.extract a (a+16))=g at h ho;obtain⟨t,i,ok⟩:=g;dsimp only at h ho;subst ho;have ht:=BI hg (z59 (by omega));rw[<-h];exact⟨(Ua (by rw[zg];exact ht) λy hy=>sY hy).2,by omega⟩
 ·simp only[dJ,if_false] at h⊢;split at h
  ·cases h
  ·injection h with h
   rw[<-h];exact⟨(Ua (by rw[zg];exact z59 (by omega)) λy hy=>sY hy).2,by omega⟩
def UR(e:Int):Nat×Nat×Int×Int:=(0,0,0,e)
def kN(aK:Int)(b:af)(at_:Int):Nat×Nat×Int×Int:=
 if(aK=1\/aK=2)/\0<=at_/\at_<=b.size then
  match vJ aK b at_.toNat with
  | .inl e=>UR e
  | .inr x=>if x<9223372036854775808 then(x,0,((at_.toNat+pE aK:Nat):Int),0) else
    match vJ aK b (at_.toNat+pE aK) with
    | .inl e=>UR e
    | .inr y=>if y=0 then UR 8 else(x-9223372036854775808,y,((at_.toNat+pE aK+pE aK:Nat):Int),0)
 else UR 1
def bmR(r:Nat×Nat×Int×Int):Da×Int×Int:=(((r.1:Int),(r.2.1:Int),()),r.2.2.1,r.2.2.2)
theorem am3{x:Nat}(hx:x<18446744073709551616):decide (dn .and .u64 (x:Int) (9223372036854775808:Int)=0)=decide (x<9223372036854775808):=by
 rw[show(9223372036854775808:Int)=((9223372036854775808:Nat):Int) from rfl,uT hx (by decide)];apply decide_eq_decide.2;have h:=z95 x 63;rw[show(2:Nat)^63=9223372036854775808 from by decide] at h;constructor
 ·intro e;have e:x&&&9223372036854775808=0:=by omega
  have:=h.1 e;rcases eg x 9223372036854775808 with h1|h1
  ·exact h1
  ·have h2:x.testBit 63=true:=by rw[eK];exact zT (by omega)
   rw[h2] at this;cases this
 ·intro e;have:x.testBit 63=false:=dq (by rw[show(2:Nat)^63=9223372036854775808 from by decide];exact e);have:=h.2 this;omega
theorem am4{x:Nat}(hx:x<18446744073709551616)(h:¬x<9223372036854775808):dn .andNot .u64 (x:Int) (9223372036854775808:Int)=((x-9223372036854775808:Nat):Int):=by
 rw[show(9223372036854775808:Int)=((9223372036854775808:Nat):Int) from rfl,ajB hx (by decide)];have:x&&&(18446744073709551615-9223372036854775808)=x-9223372036854775808:=by have:=hI x 63;rw[show(2:Nat)^63-1=18446744073709551615-9223372036854775808 from by decide,show(2:Nat)^63=9223372036854775808 from by decide] at this;omega
 rw[this]
theorem ajJ(aK:Int)(b:af)(at_:Int)(hb:b.size<=1099511627776):Q5 aK b at_=some (bmR (kN aK b at_)):=by
 have hk:Q9 aK=some (decide (aK=1\/aK=2)):=by
  unfold Q9 uP;by_cases h1:aK=1
  ·rw[zT (p:=aK=1\/aK=2) (.inl h1),zT h1];rfl
  ·rw[zF h1,zD];by_cases h2:aK=2
   ·rw[zT (p:=aK=1\/aK=2) (.inr h2),zT h2]
   ·rw[zF (p:=aK=1\/aK=2) (λh=>h.elim h1 h2),zF h2]
 unfold Q5 xq kN;rw[hk,zc];by_cases h1:aK=1\/aK=2
 case neg=>rw[zF h1,if_neg (λh=>h1 h.1)];rfl
 rw[zT h1,ai,zD];by_cases h3:at_<0
 ·rw[zT h3,if_neg (λh=>by omega)];rfl
 rw[zF h3,zD];by_cases h4:(b.size:Int)<at_
 ·rw[zT h4,if_neg (λh=>by omega)];rfl
 rw[zF h4,zD,if_pos ⟨h1,by omega,by omega⟩];obtain⟨m,rfl⟩:∃m:Nat,at_=m:=⟨at_.toNat,by omega⟩
 rw[aw,R5 aK b m hb (by omega) h1,zc];cases hT:vJ aK b m with
 |inl e=>
  have he:¬e=0:=by
   unfold vJ at hT;split at hT
   ·cases hT;decide
   ·split at hT
    ·split at hT
     ·cases hT
     ·cases hT;decide
    ·cases hT
  show(bif(!(decide (e=0))) then _ else _)=_;rw[zF he];rfl
 |inr x=>
  obtain⟨hx,lV⟩:=Jg h1 hT;show(bif(!(decide ((0:Int)=0))) then _ else(Q7 (tY x)).bind _)=_;rw[zT rfl,ai,zD,RB _ (RE x) (Qh x),zc,zz3 hx,am3 hx];by_cases bS:x<9223372036854775808
  ·rw[zT bS,zC];dsimp only;rw[if_pos bS];rfl
  ·rw[zF bS,zD];dsimp only[Cl];rw[R5 aK b (m+pE aK) hb (by omega) h1,zc,if_neg bS];cases hU:vJ aK b (m+pE aK) with
   |inl e=>
    have he:¬e=0:=by
     unfold vJ at hU;split at hU
     ·cases hU;decide
     ·split at hU
      ·split at hU
       ·cases hU
       ·cases hU;decide
      ·cases hU
    show(bif(!(decide (e=0))) then _ else _)=_;rw[zF he];rfl
   |inr y=>
    obtain⟨hy,KE⟩:=Jg h1 hU;rw[show Cl (m+pE aK) aK (.inr y)=(tY y,((m+pE aK+pE aK:Nat):Int),(0:Int)) from rfl];dsimp only;rw[zT rfl,ai,zD];by_cases hz:y=0
    ·rw[zT ((Wb hy).2 hz),zC];rw[if_pos hz];rfl
    ·rw[zF (λh=>hz ((Wb hy).1 h)),zD,RB _ (RE y) (Qh y),zc,zz3 hy,am4 hx bS];rw[if_neg hz];rfl
def oV(aK:Int)(t:af):af:=if aK=1 then AD t else t
def wB(x:Nat):af:=strOf (tY x)
theorem J4(x:Nat):(wB x).size=8:=by unfold wB;rw[CV];rfl
theorem zhf{aK:Int}(x:Nat):(oV aK (wB x)).size=pE aK:=by
 unfold oV pE;split
 ·rw[zao,J4]
 ·exact J4 x
def oh(aK:Int)(h l:Nat):af×Int:=
 if(aK=1\/aK=2)/\h<9223372036854775808 then((if l=0 then oV aK (wB h) else oV aK (wB (h+9223372036854775808))++oV aK (wB l)),0) else(bs [],1)
theorem znj:∀a b:List Int,nW (a++b)=nW a++nW b
 | [],b=>rfl
 |x::r,b=>by rw[List.cons_append,nW,nW,znj r b];rfl
theorem acb(a b:af):AD (a++b)=AD a++AD b:=by unfold AD;rw[yr,znj,acJ]
theorem acZ(aK:Int)(a b:af):oV aK (a++b)=oV aK a++oV aK b:=by
 unfold oV;split
 ·exact acb a b
 ·rfl
theorem amK{h l:Nat}(hh:h<lB):hP h l 1= !decide (h<9223372036854775808):=by
 have e:hP h l 1=h.testBit 63:=by unfold hP;rw[if_pos (by decide)];rfl
 rw[e];rcases eg h 9223372036854775808 with h1|h1
 ·rw[zT h1];exact dq (by rw[show(2:Nat)^63=9223372036854775808 from by decide];exact h1)
 ·rw[zF (by omega),eK];have hh:h<18446744073709551616:=hh;exact zT (by omega)
theorem aoc{h:Nat}(hh:h<9223372036854775808):h|||9223372036854775808=h+9223372036854775808:=by have:=iY (i:=63) (b:=h) (by rw[show(2:Nat)^63=9223372036854775808 from by decide];exact hh) 1;rw[show(2:Nat)^63=9223372036854775808 from by decide,Nat.mul_one] at this;rw[Nat.or_comm,<-this,Nat.add_comm]
theorem RD(x:af):x++bs []=x:=by apply lJ;simp [dS,bs]
theorem ajL(aK:Int)(h l:Nat)(hh:h<lB)(hl:l<lB):Q6 aK ((h:Int),(l:Int),())=some (oh aK h l):=by
 have hk:Q9 aK=some (decide (aK=1\/aK=2)):=by
  unfold Q9 uP;by_cases h1:aK=1
  ·rw[zT (p:=aK=1\/aK=2) (.inl h1),zT h1];rfl
  ·rw[zF h1,zD];by_cases h2:aK=2
   ·rw[zT (p:=aK=1\/aK=2) (.inr h2),zT h2]
   ·rw[zF (p:=aK=1\/aK=2) (λh=>h.elim h1 h2),zF h2]
 unfold Q6 xu oh;rw[hk,zc];by_cases h1:aK=1\/aK=2
 case neg=>rw[zF h1,if_neg (λh=>h1 h.1)];rfl
 rw[zT h1,ai,zD,am8 h l hh hl,zc,amK hh];by_cases h2:h<9223372036854775808
 case neg=>rw[zF h2,if_neg (λh=>h2 h.2)];rfl
 rw[zT h2,ai,zD,if_pos ⟨h1,h2⟩];have hH:UL ((h:Int),(l:Int),())=some ((h:Int),(l:Int)):=rfl;rw[hH,zc];dsimp only;rw[zpg,zc];have z8:∀x:Nat,Nat.beq 8 (ag (tY x))=true:=λx=>rfl;have fin:∀t:af,t.size<=16->(bif decide (aK=1) then(rH t).bind λr6=>some (r6,(0:Int)) else some (t,0))=some (oV aK t,0):=λt ht=>by
  unfold oV;by_cases hs:aK=1
  ·rw[zT hs,zC,ztt t (by omega),if_pos hs];rfl
  ·rw[zF hs,if_neg hs];rfl
 by_cases hz:l=0
 ·rw[zT ((Wb hl).2 hz),if_pos hz,ai,zD,zpg,zc,z8,zC];have lV:(strOf (tY h)).size=8:=J4 h;rw[zT (by rw[lV];decide),zC,RD];exact fin (wB h) (by rw[J4];decide)
 ·have hor:dn .or .u64 (h:Int) (9223372036854775808:Int)=((h+9223372036854775808:Nat):Int):=by rw[show(9223372036854775808:Int)=((9223372036854775808:Nat):Int) from rfl,Ew hh (by decide),aoc h2]
  rw[zF (λe=>hz ((Wb hl).1 e)),if_neg hz,aV,zC,z8,zC,hor,zpg,zc,z8,zC];have lV:∀x,(strOf (tY x)).size=8:=λx=>J4 x;rw[zT (by rw[lV,lV];decide),zC,<-acZ];exact fin (wB _++wB l) (by rw[G9,J4,J4];decide)
theorem amF(b:af){a:Nat}{aK:Int}(h:a+pE aK<=b.size):(b.extract a (a+pE aK)).size=pE aK:=z59 h
theorem OR{aK:Int}{b:af}{a v:Nat}(hs:aK=1\/aK=2)(h:vJ aK b a= .inr v):oV aK (wB v)=b.extract a (a+pE aK)/\v<18446744073709551616/\a+pE aK<=b.size:=by
 obtain⟨h1,h2⟩:=Jg hs h;refine⟨?_,h1,h2⟩;have hz:=amF b h2;unfold vJ at h;rw[if_neg (by omega)] at h;unfold oV wB;rcases hs with rfl|rfl
 ·rw[if_pos rfl] at h⊢;split at h
  case isFalse=>cases h
  rename_i ho;generalize hg:vV (b.extract a (a+pE 1))=g at h ho;obtain⟨t,i,ok⟩:=g;dsimp only at h ho;subst ho;injection h with h
  have ht:=BI hg hz;obtain⟨e1,_⟩:=Ua (l:=bl t) (by rw[zg];exact ht) λy hy=>sY hy;rw[<-h,e1,JJ,(zho hg).1]
 ·rw[if_neg (by decide)] at h⊢;injection h with h
  obtain⟨e1,_⟩:=Ua (l:=bl (b.extract a (a+pE 2))) (by rw[zg];exact hz) λy hy=>sY hy;rw[<-h,e1,JJ]
theorem Qg{aK:Int}{h l:Nat}(hs:aK=1\/aK=2)(hh:h<9223372036854775808):oh aK h l=((if l=0 then oV aK (wB h) else oV aK (wB (h+9223372036854775808))++oV aK (wB l)),0):=by unfold oh;rw[if_pos ⟨hs,hh⟩]
theorem ajM{aK z:Int}{b:af}{a h l:Nat}(hg:kN aK b a=(h,l,z,0)):(aK=1\/aK=2)/\h<9223372036854775808/\l<18446744073709551616/\(a:Int)<=z/\z<=b.size/\(oh aK h l).1=b.extract a z.toNat:=by
 unfold kN at hg;split at hg
 case isFalse=>cases hg
 rename_i hc;obtain⟨hs,h0,h1⟩:=hc;rw[aw] at hg;cases hT:vJ aK b a with
 |inl e=>
  exfalso;rw[hT] at hg;have he:e=0:=by have:=congrArg (λr:Nat×Nat×Int×Int=>r.2.2.2) hg;exact this
  subst he;unfold vJ at hT;split at hT
  ·cases hT
  ·split at hT
   ·split at hT<;>cases hT
   ·cases hT
 |inr x=>
  rw[hT] at hg;obtain⟨e1,e2,e3⟩:=OR hs hT;dsimp only at hg;split at hg
  ·rename_i bS;injection hg with g1 g2
   injection g2 with g2 g3
   injection g3 with g3 _
   subst g1 g2 g3;refine⟨hs,bS,by decide,by omega,by omega,?_⟩;rw[Qg hs bS,if_pos rfl,e1,aw]
  ·rename_i UZ;cases hU:vJ aK b (a+pE aK) with
   |inl e=>
    exfalso;rw[hU] at hg;have he:e=0:=by have:=congrArg (λr:Nat×Nat×Int×Int=>r.2.2.2) hg;exact this
    subst he;unfold vJ at hU;split at hU
    ·cases hU
    ·split at hU
     ·split at hU<;>cases hU
     ·cases hU
   |inr y=>
    rw[hU] at hg;obtain⟨f1,f2,f3⟩:=OR hs hU;dsimp only at hg;split at hg
    ·exfalso;have:=congrArg (λr:Nat×Nat×Int×Int=>r.2.2.2) hg;cases this
    ·rename_i hz;injection hg with g1 g2
     injection g2 with g2 g3
     injection g3 with g3 _
     subst g1 g2 g3;refine⟨hs,by omega,f2,by omega,by omega,?_⟩;rw[Qg hs (by omega),if_neg hz,show x-9223372036854775808+9223372036854775808=x by omega,e1,f1,aw];exact RI _ (by omega) (by omega)
end eL

set_option maxRecDepth 10000
namespace eL
open Go.IntKind renaming wrap->zW,i64->zI,u8->zU
open Go Go.Ref
theorem Ss{α:Type}{p:Prop}[Decidable p](h:p){x y:α}:(bif !decide p then x else y)=y:=by rw[zT h];rfl
theorem Sr{α:Type}{p:Prop}[Decidable p](h:¬p){x y:α}:(bif !decide p then x else y)=x:=by rw[zF h];rfl
def n8(m:af):Bool:=decide ((m.size:Int)=4)&&fg (bl m)
theorem zY{m:af}:n8 m=true↔m.size=4/\fg (bl m)=true:=by unfold n8;rw[ar,decide_eq_true_eq];constructor<;>intro h<;>exact⟨by omega,h.2⟩
theorem zap(m:af)(h:m.size<=maxLen):wq m=some (n8 m):=by
 unfold wq Xw n8;cases decide ((m.size:Int)=4) with
 |false=>rfl
 |true=>rw[zC,Zd m h];rfl
theorem adw(m:af)(h:m.size<=maxLen):AJ m=some (n8 m):=by
 unfold AJ Wp n8;cases decide ((m.size:Int)=4) with
 |false=>rfl
 |true=>rw[zC,PZ m h];rfl
theorem E1{m:af}(h:n8 m=true)(i:Nat)(hi:i<4):48<=ze m i/\ze m i<=57:=by
 obtain⟨h1,h2⟩:=zY.1 h;have hl:i<(bl m).length:=by rw[zg];omega
 have:=aY.1 h2 _ (cB hl);rw[uy,aq,au hl];exact of_decide_eq_true this
def oM(m:af):Int:=bif n8 m then ze m 0-48 else 0
def m6(m:af):Bool:=n8 m&&(decide (ze m 2=48)||decide (ze m 2=50))
theorem Vy(m:af)(h:m.size<=maxLen):qQ m=some (oM m,n8 m):=by
 unfold qQ Xx oM;rw[zap m h,ap];cases hr:n8 m with
 |false=>rfl
 |true=>obtain⟨h1,_⟩:=zY.1 hr;have:=E1 hr 0 (by omega);simp only[ai,zD,zC];rw[zm (by omega) (by omega),show(0:Int).toNat=0 from rfl,Cr (by omega) (by omega),zk (by omega) (by omega)]
theorem zcu(m:af)(h:m.size<=maxLen):wo m=some (m6 m):=by
 unfold wo Xu m6;rw[zap m h,ap];cases hr:n8 m with
 |false=>rfl
 |true=>obtain⟨h1,_⟩:=zY.1 hr;rw[zC,zm (by omega) (by omega),zm (by omega) (by omega),show(2:Int).toNat=2 from rfl];cases decide (ze m 2=48)<;>rfl
theorem zgp(m:af)(h:m.size<=maxLen):yA m=some (m6 m):=by
 unfold yA Wo m6;rw[ahY m h,ap];unfold mP;by_cases h4:m.size=4
 ·cases hd:fg (bl m) with
  |false=>
   rw[if_neg (by simp)];have:n8 m=false:=by unfold n8;rw[hd,eR]
   rw[this];rfl
  |true=>
   have hr:n8 m=true:=zY.2 ⟨h4,hd⟩;rw[if_pos ⟨by rw[zg];omega,by rw[zg];omega,rfl⟩,hr];dsimp only;rw[zC,zT (by omega),zC,dO];have hl:(bl m).length=4:=by rw[zg,h4]
   obtain⟨d0,d1,d2,d3,hb⟩:∃d0 d1 d2 d3,bl m=[d0,d1,d2,d3]:=by
    match hm:bl m,hl with
    | [d0,d1,d2,d3],_=>exact⟨d0,d1,d2,d3,rfl⟩
   have h0:=E1 hr 0 (by omega);have h1:=E1 hr 1 (by omega);have h2:=E1 hr 2 (by omega);have h3:=E1 hr 3 (by omega);rw[uy,hb] at h0 h1 h2 h3;rw[uy,hb];simp only[List.getD_cons_zero,ln] at h0 h1 h2 h3⊢;have hv:nK [d0,d1,d2,d3] 0=1000*(d0-48)+100*(d1-48)+10*(d2-48)+(d3-48):=by simp only[nK,cw,List.foldl_nil];omega
   have hq:Int.tmod (zW zI (dj (nK [d0,d1,d2,d3] 0) 10)) 10=d2-48:=by rw[hv,jk (by omega),zk (by omega) (by omega),jl (by omega)];omega
   rw[hq];by_cases e1:d2=48
   ·rw[zT e1,zT (by omega:d2-48=0)];rfl
   ·rw[zF e1,zF (by omega:¬d2-48=0),zD,dx];congr 1;exact decide_eq_decide.2 (by omega)
 ·have:n8 m=false:=by unfold n8;rw[zF (by omega),Bool.false_and]
  rw[this];cases(if 1<=(bl m).length/\(bl m).length<=18/\fg (bl m)=true then(nK (bl m) 0,true) else((0:Int),false)).2 with
  |false=>rfl
  |true=>rw[zC,zF (by omega)];rfl
def qa(m:af)(v:Int):Bool:=n8 m&&decide (ze m 0-48=v)
theorem zic(m:af)(v:Int)(h:m.size<=maxLen):yC m v=some (qa m v):=by
 unfold yC WO qa;rw[adw m h,ap];cases hr:n8 m with
 |false=>rfl
 |true=>obtain⟨h1,_⟩:=zY.1 hr;have:=E1 hr 0 (by omega);have w1:zW zI (ze m 0)=ze m 0:=zk (by omega) (by omega);rw[zC,zm (by omega) (by omega),show(0:Int).toNat=0 from rfl,w1,zk (by omega) (by omega)];rfl
def vX(p:fe)(a b:zf):Bool:=qa p.1 a.2.1&&(qa p.2.1 b.2.1&&(m6 p.1==m6 p.2.1))
theorem akT(p:fe)(a b:zf)(h1:p.1.size<=maxLen)(h2:p.2.1.size<=maxLen):wD p a b=some (vX p a b):=by
 unfold wD YV vX qa;rw[Vy _ h1,Vy _ h2,zcu _ h1,zcu _ h2];simp only[ap];unfold oM;cases n8 p.1 with
 |false=>rfl
 |true=>
  cases n8 p.2.1 with
  |false=>simp
  |true=>
   simp only[zC,dO];cases decide (ze p.1 0-48=a.2.1) with
   |false=>rfl
   |true=>
    cases decide (ze p.2.1 0-48=b.2.1) with
    |false=>rfl
    |true=>rfl
abbrev fX:=af×List eD×Unit
abbrev gS:=Int×Int×Unit
abbrev vF:eD:=(0,bs [],())
abbrev sD:gS:=(0,0,())
structure nq(m:fX):Prop where
 Cd:m.1.size<=9223372036854775807
 len:m.2.1.length<=1000000
 Aq:∀v∈m.2.1,v.2.1.size<=1099511627776
def nw(l:List eD)(no:Int):List eD:=l.filter λv=> !decide (v.1=no)
theorem O1(l:List eD)(no:Int):(nw l no).length<=l.length:=List.length_filter_le _ _
theorem zat(no:Int)(fin:fX×fX->ae (fX×fX)):∀(l:List eD) (i:Int) (s:fX×fX),s.2.2.1.length+l.length<=1000000000->
 fa (λi (x:eD) (s:fX×fX) K=>(bif(!(decide (x.1=no))) then(bif(decide ((s.2.2.1.length+(ag ([x]:List eD)))*24<=140737488355328)) then K (s.1,(s.2.1,(s.2.2.1++([x]:List eD)),())) else none) else K s)) fin l i s=fin (s.1,(s.2.1,s.2.2.1++nw l no,()))
 | [],i,s,_=>by show fin s=_;simp [nw]
 |x::r,i,s,h=>by
  simp only[aF] at h;rw[fa];by_cases hx:x.1=no
  ·rw[zT hx,ai,zD];refine(zat no fin r (i+1) s (by omega)).trans ?_;simp [nw,hx]
  ·rw[zF hx,aV,zC,zT (by simp only[cj];omega),zC];refine(zat no fin r (i+1) (s.1,(s.2.1,s.2.2.1++ [x],())) (by simp only[aJ,cj];omega)).trans ?_;simp [nw,hx]
theorem acL(m:fX)(no:Int)(h:m.2.1.length<=1000000):A3 m no=some (m.1,nw m.2.1 no,()):=by
 unfold A3 Xt;dsimp only;have:=jz vF m.2.1 (by rw[zh];omega) (λi (x:eD) (s:fX×fX) K=>(bif(!(decide (x.1=no))) then(bif(decide ((s.2.2.1.length+(ag ([x]:List eD)))*24<=140737488355328)) then K (s.1,(s.2.1,(s.2.2.1++([x]:List eD)),())) else none) else K s)) (λs=>some s)
  (λk i s=>TF k no m.2.1 (m.2.1.length:Int) i s.1 s.2) (λk i s=>rfl) ((bs [],[],()),(m.1,[],()))
 rw[this,zat no _ _ _ _ (by simp;omega)];rfl
def ix(no:Int):List eD->Int->Int
 | [],_=> -1
 |x::r,i=>if no<x.1 then i else ix no r (i+1)
theorem SN(no:Int):∀(l:List eD) (i:Int),0<=i->(ix no l i= -1/\∀x∈l,x.1<=no)\/(i<=ix no l i/\ix no l i<i+l.length)
 | [],i,h=> .inl ⟨rfl,λx hx=>by cases hx⟩
 |x::r,i,h=>by
  unfold ix;by_cases hx:no<x.1
  ·rw[if_pos hx];right;simp only[aF];omega
  ·rw[if_neg hx];rcases SN no r (i+1) (by omega) with⟨h1,h2⟩|h1
   ·left;refine⟨h1,λy hy=> ?_⟩;rcases aH.1 hy with rfl|hy
    ·omega
    ·exact h2 y hy
   ·right;simp only[aF];omega
def exV(r no:Int):Sum (Int×Int) Int:=bif decide (r<0) then .inr no else .inl (r,no)
theorem Pq(no:Int):∀(l:List eD) (i:Int),0<=i->fa (λi (x:eD) (s:Int) K=>((A0 x s).bind λr1=>(bif r1.1 then some (Sum.inl (i,r1.2)) else K r1.2))) (λs=>some (Sum.inr s)) l i no=some (exV (ix no l i) no)
 | [],i,h=>rfl
 |x::r,i,h=>by
  rw[fa,ix];show(bif decide (no<x.1) then some (Sum.inl (i,no)) else fa _ _ r (i+1) no)=_;by_cases hx:no<x.1
  ·rw[zT hx,zC,if_pos hx];unfold exV;rw[zF (by omega)];rfl
  ·rw[zF hx,zD,if_neg hx];exact Pq no r (i+1) (by omega)
theorem ads(l:List eD)(no:Int)(h:l.length<=1000000):Bf l no=some (ix no l 0,no):=by
 unfold Bf Ye;dsimp only;have:=jz vF l (by rw[zh];omega) (λi (x:eD) (s:Int) K=>((A0 x s).bind λr1=>(bif r1.1 then some (Sum.inl (i,r1.2)) else K r1.2))) (λs=>some (Sum.inr s))
  (λk i s=>TQ k l (l.length:Int) i s) (λk i s=>rfl) no
 rw[this,Pq no l 0 (dw _),zc];unfold exV;rcases SN no l 0 (dw _) with⟨h1,_⟩|h1
 ·rw[h1];rfl
 ·rw[zF (by omega)];rfl
theorem ahl(old:List eD)(at_:Nat)(v d:eD)(h:at_<=old.length):
 gQ (cK (gQ (aB (old.length+1) d) (aI (old.length+1) (bk 0 (aI at_ old))) 0) at_ v) (aI (old.length+1-(at_+1)) (bk at_ (aI old.length old))) (at_+1)=old.take at_++v::old.drop at_:=by
 have e1:aI (old.length+1) (bk 0 (aI at_ old))=old.take at_:=by rw[aO,List.take_take,Nat.min_eq_right (by omega)]
 have e2:aI (old.length+1-(at_+1)) (bk at_ (aI old.length old))=old.drop at_:=by rw[cC,cp (by rw[bW];omega)]
 rw[e1,e2];have hl:(old.take at_).length=at_:=by rw[aU];omega
 have e3:gQ (aB (old.length+1) d) (old.take at_) 0=old.take at_++aB (old.length+1-at_) d:=by unfold gQ;rw[cX,b6,hl,Nat.zero_add,List.drop_replicate]
 obtain⟨n,hn⟩:∃n,old.length+1-at_=n+1:=⟨old.length-at_,by omega⟩
 have e4:cK (old.take at_++aB (old.length+1-at_) d) at_ v=old.take at_++v::aB n d:=by rw[hn,eY,List.set_append,if_neg (by omega),hl,Nat.sub_self,List.set_cons_zero]
 rw[e3,e4];unfold gQ;have e5:(old.take at_++v::aB n d).take (at_+1)=old.take at_++ [v]:=by rw[List.take_append,hl,show at_+1-at_=1 by omega,cp (by omega)];rfl
 have e6:(old.take at_++v::aB n d).drop (at_+1+(old.drop at_).length)=[]:=by apply aP;rw[aJ,hl,aF,fF,bW];omega
 rw[e5,e6,bY,bd];rfl
theorem PX(q t:af)(no:Int)(old:List eD)(at_:Nat)(h:at_<=old.length)(hl:old.length<=1000000):
 (bif(decide ((zW zI (((ag old):Int)+(1:Int)))=(zW zI (((ag old):Int)+(1:Int))))) then(bif(decide ((0:Int)<=(zW zI (((ag old):Int)+(1:Int))))) then(bif(decide ((zW zI (((ag old):Int)+(1:Int)))*24<=140737488355328)) then(bif(decide ((0:Int)<=((at_:Nat):Int))) then(bif(decide (((at_:Nat):Int)<=(((ag old):Nat):Int))) then(bif(Nat.beq ((zW zI (((ag old):Int)+(1:Int)))).toNat (ag (aB ((zW zI (((ag old):Int)+(1:Int)))).toNat ((0:Int),(bs []),())))) then(zd ((at_:Nat):Int) ((zW zI (((ag old):Int)+(1:Int)))).toNat (bif(Nat.ble ((((at_:Nat):Int)).toNat+1) (ag (gQ (aB ((zW zI (((ag old):Int)+(1:Int)))).toNat ((0:Int),(bs []),())) (aI ((zW zI (((ag old):Int)+(1:Int)))).toNat (bk 0 (aI (((at_:Nat):Int)).toNat old))) 0))) then(bif(decide ((0:Int)<=(zW zI (((at_:Nat):Int)+(1:Int))))) then(bif(decide ((zW zI (((at_:Nat):Int)+(1:Int)))<=((((zW zI (((ag old):Int)+(1:Int)))).toNat:Nat):Int))) then(bif(decide ((0:Int)<=((at_:Nat):Int))) then(bif(decide (((at_:Nat):Int)<=(((ag old):Nat):Int))) then(bif(Nat.beq ((zW zI (((ag old):Int)+(1:Int)))).toNat (ag (cK (gQ (aB ((zW zI (((ag old):Int)+(1:Int)))).toNat ((0:Int),(bs []),())) (aI ((zW zI (((ag old):Int)+(1:Int)))).toNat (bk 0 (aI (((at_:Nat):Int)).toNat old))) 0) (((at_:Nat):Int)).toNat (no,t,())))) then(bif(Nat.ble ((zW zI (((at_:Nat):Int)+(1:Int)))).toNat ((zW zI (((ag old):Int)+(1:Int)))).toNat) then(bif(Nat.beq ((zW zI (((ag old):Int)+(1:Int)))).toNat (ag (gQ (cK (gQ (aB ((zW zI (((ag old):Int)+(1:Int)))).toNat ((0:Int),(bs []),())) (aI ((zW zI (((ag old):Int)+(1:Int)))).toNat (bk 0 (aI (((at_:Nat):Int)).toNat old))) 0) (((at_:Nat):Int)).toNat (no,t,())) (aI (((zW zI (((ag old):Int)+(1:Int)))).toNat-((zW zI (((at_:Nat):Int)+(1:Int)))).toNat) (bk (((at_:Nat):Int)).toNat (aI (ag old) old))) ((zW zI (((at_:Nat):Int)+(1:Int)))).toNat))) then(some (q,(gQ (cK (gQ (aB ((zW zI (((ag old):Int)+(1:Int)))).toNat ((0:Int),(bs []),())) (aI ((zW zI (((ag old):Int)+(1:Int)))).toNat (bk 0 (aI (((at_:Nat):Int)).toNat old))) 0) (((at_:Nat):Int)).toNat (no,t,())) (aI (((zW zI (((ag old):Int)+(1:Int)))).toNat-((zW zI (((at_:Nat):Int)+(1:Int)))).toNat) (bk (((at_:Nat):Int)).toNat (aI (ag old) old))) ((zW zI (((at_:Nat):Int)+(1:Int)))).toNat),())) else none) else none) else none) else none) else none) else none) else none) else none)) else none) else none) else none) else none) else none) else none)=some (q,old.take at_++(no,t,())::old.drop at_,()):=by
 have w1:zW zI ((old.length:Int)+1)=((old.length+1:Nat):Int):=zu (by omega);have w2:zW zI ((at_:Int)+1)=((at_+1:Nat):Int):=zu (by omega);simp only[w1,w2,aw];have key:=ahl old at_ (no,t,()) ((0:Int),bs [],()) h;have l1:(gQ (aB (old.length+1) ((0:Int),(bs []),())) (aI (old.length+1) (bk 0 (aI at_ old))) 0).length=old.length+1:=by unfold gQ;simp;omega
 have l2:(old.take at_++(no,t,())::old.drop at_).length=old.length+1:=by rw[aJ,aU,aF,bW];omega
 have d2:decide ((0:Int)<=((old.length+1:Nat):Int))=true:=zT (by omega);have d3:decide (((old.length+1:Nat):Int)*24<=140737488355328)=true:=zT (by omega);have d4:decide ((0:Int)<=(at_:Int))=true:=zT (by omega);have d5:decide ((at_:Int)<=(old.length:Int))=true:=zT (by omega);have d9:decide ((0:Int)<=((at_+1:Nat):Int))=true:=zT (by omega);have d10:decide (((at_+1:Nat):Int)<=((old.length+1:Nat):Int))=true:=zT (by omega);have b1:Nat.ble (at_+1) (old.length+1)=true:=kD (by omega);have hw:∀{R:Type} (x:ae R),zd (at_:Int) (old.length+1) x=x:=λx=>zi (by omega);simp only[decide_true,zC,d2,d3,d4,d5,fF,Nat.beq_refl,hw,l1,b1,d9,d10,List.length_set,key,l2]
def uk(l:List eD)(no:Int)(t:af):List eD:=
 bif decide (ix no l 0<0) then l++ [(no,t,())] else l.take (ix no l 0).toNat++(no,t,())::l.drop (ix no l 0).toNat
def mV(m:fX)(no:Int)(t:af):fX:=(m.1,uk (nw m.2.1 no) no t,())
theorem V4(m:fX)(no:Int)(t:af)(h:m.2.1.length<=1000000):pJ m no t=some (mV m no t):=by
 unfold pJ Xq mV;have hl:=O1 m.2.1 no;rw[acL m no h,zc];dsimp only;generalize nw m.2.1 no=old at*;rw[ads old no (by omega),zc];dsimp only;unfold uk;rcases SN no old 0 (dw _) with⟨h1,_⟩|h1
 ·rw[h1,zT (by omega:(-1:Int)<0),zC,zC];refine(PX m.1 t no old old.length (bg _) (by omega)).trans ?_;rw[cC,List.drop_length]
 ·rw[zF (by omega:¬ix no old 0<0),zD,zD];obtain⟨n,hn⟩:∃n:Nat,ix no old 0=n:=⟨(ix no old 0).toNat,by omega⟩
  rw[hn];refine(PX m.1 t no old n (by omega) (by omega)).trans ?_;rw[aw]
def Ay(s:zf):List eD->Int->ae gS
 | [],_=>none
 |x::r,last=>bif decide (x.1<=last) then some (11,x.1,()) else bif !eP s x.1 then some (9,x.1,()) else bif !decide (fK (dv s x.1) x.2.1=0) then some (fK (dv s x.1) x.2.1,x.1,()) else Ay s r x.1
def RJ(o:ae gS):ae (Sum gS gS):=some (match o with
 |some f=> .inl f
 |none=> .inr sD)
theorem zti(s:zf)(hs:s.2.2.1.length<=maxLen):∀(l:List eD) (i last:Int),(∀v∈l,v.2.1.size<=1099511627776)->
 fa (λi (x:eD) (t9:Int) K=>(bif(decide (x.1<=t9)) then some (Sum.inl ((11:Int),x.1,())) else((oc s x.1).bind λr3=>(bif(!r3.2) then some (Sum.inl ((9:Int),x.1,())) else((gP r3.1 x.2.1).bind λr4=>(bif(!(decide (r4=(0:Int)))) then some (Sum.inl (r4,x.1,())) else K x.1)))))) (λ_=>some (Sum.inr sD)) l i last=RJ (Ay s l last)
 | [],i,last,_=>rfl
 |x::r,i,last,h=>by
  rw[fa,Ay,G7 s _ hs,zc];cases decide (x.1<=last) with
  |true=>rfl
  |false=>
   rw[zD,zD];dsimp only;cases eP s x.1 with
   |false=>rfl
   |true=>
    rw[ai,zD,zD,EO _ _ (h x aW),zc];cases decide (fK (dv s x.1) x.2.1=0) with
    |false=>rfl
    |true=>rw[ai,zD,zD];exact zti s hs r (i+1) x.1 (λv hv=>h v (aG _ hv))
def oY(s:zf)(m:fX):gS:=
 bif !decide ((pF s).1=0) then(1,-1,()) else bif !n8 m.1 then(7,0,()) else bif !decide (oM m.1=s.2.1) then(7,0,()) else match Ay s m.2.1 0 with
  |some f=>f
  |none=>sD
theorem znq(s:zf)(m:fX)(hs:s.2.2.1.length<=maxLen)(h:nq m):yG s m=some (oY s m):=by
 unfold yG Xl oY;rw[S7 s hs,zc,Vy m.1 (by rw[zh];exact h.Cd),zc];cases decide ((pF s).1=0) with
 |false=>rfl
 |true=>
  rw[ai,zD,zD];dsimp only;cases n8 m.1 with
  |false=>rfl
  |true=>
   rw[ai,zD,zD];cases decide (oM m.1=s.2.1) with
   |false=>rfl
   |true=>
    rw[ai,zD,zD];have hl:=h.len;have:=jz vF m.2.1 (by rw[zh];omega) (λi (x:eD) (t9:Int) K=>(bif(decide (x.1<=t9)) then some (Sum.inl ((11:Int),x.1,())) else((oc s x.1).bind λr3=>(bif(!r3.2) then some (Sum.inl ((9:Int),x.1,())) else((gP r3.1 x.2.1).bind λr4=>(bif(!(decide (r4=(0:Int)))) then some (Sum.inl (r4,x.1,())) else K x.1)))))) (λ_=>some (Sum.inr sD))
     (λk i t9=>TC k t9 m.2.1 (m.2.1.length:Int) i s sD) (λk i t9=>rfl) 0
    rw[this,zti s hs _ _ _ h.Aq];unfold RJ;cases Ay s m.2.1 0<;>rfl
theorem amQ{a b:fX}:a=b↔a.1=b.1/\a.2.1=b.2.1:=⟨λh=>by rw[h];exact⟨rfl,rfl⟩,λh=>Prod.ext h.1 (Prod.ext h.2 rfl)⟩
abbrev Map:=List fe×List dN×Unit
structure mL(m:Map):Prop where
 wN:m7 m.1
 len:m.2.1.length<=1000000
 rules:∀r∈m.2.1,nF r
def ng(a b:zf):List af->List fe->Int->ae (Int×Int)
 |_,[],_=>none
 |seen,p::r,i=>if vX p a b=true then(if p.1∈seen then some (10,i) else ng a b (seen++ [p.1]) r (i+1)) else some (7,i)
abbrev Xr:=Sum (Int×Int×Int×Map×zf×zf) (Map×zf×zf)
def vz(m:Map)(a b:zf)(o:ae (Int×Int)):ae Xr:=some (match o with
 |some e=> .inl (e.1,2,e.2,m,a,b)
 |none=> .inr (m,a,b))
theorem QH(m:Map)(a b:zf):∀(l:List fe) (i:Int) (seen:List af),(∀p∈l,p.1.size<=1099511627776/\p.2.1.size<=1099511627776)->
 fa (λi (x:fe) (s:List qT) K=>((wD x a b).bind λr2=>(bif(!r2) then some (Sum.inl ((7:Int),(2:Int),i,m,a,b)) else(bif nB (oo .str) false s x.1 then some (Sum.inl ((10:Int),(2:Int),i,m,a,b)) else(bif nC (oo .str) s x.1 then none else K (s++ [(x.1,true)])))))) (λ_=>some (Sum.inr (m,a,b))) l i (mD seen)=vz m a b (ng a b seen l i)
 | [],i,seen,_=>rfl
 |p::r,i,seen,h=>by
  obtain⟨h1,h2⟩:=h p aW;simp only[fa,ng];rw[akT p a b (by rw[zh];omega) (by rw[zh];omega),ap];cases vX p a b with
  |false=>rw[if_neg (by simp)];rfl
  |true=>
   rw[if_pos rfl];simp only[ai,zD];have e1:=VW (oo .str) (λ_ _=>rfl) p.1 seen;have e2:=VX (oo .str) (λ_ _=>rfl) p.1 seen;by_cases hm:p.1∈seen
   ·rw[e1.2 hm,if_pos hm];rfl
   ·rw[JC e1 hm,JC e2 hm,if_neg hm,zD,zD,z9l];exact QH m a b r (i+1) (seen++ [p.1]) λq hq=>h q (aG _ hq)
theorem ag3(m:Map)(a b:zf)(h:m7 m.1):Lg bE m.1 (m.1.length:Int) 0 m a b []=vz m a b (ng a b [] m.1 0):=by
 have hl:=h.len;have:=jz qI m.1 (by rw[zh];omega) (λi (x:fe) (s:List qT) K=>((wD x a b).bind λr2=>(bif(!r2) then some (Sum.inl ((7:Int),(2:Int),i,m,a,b)) else(bif nB (oo .str) false s x.1 then some (Sum.inl ((10:Int),(2:Int),i,m,a,b)) else(bif nC (oo .str) s x.1 then none else K (s++ [(x.1,true)])))))) (λ_=>some (Sum.inr (m,a,b)))
  (λk i s=>Lg k m.1 (m.1.length:Int) i m a b s) (λk i s=>rfl) []
 rw[this];exact QH m a b m.1 0 [] h.sz
theorem af5(f:af)(l:List fe):(zw l f).2=true↔f∈l.map λp=>p.1:=by
 unfold zw
 induction l with
 |nil=>simp
 |cons p r ih=>
  rw[eJ,bq,aH];by_cases h:p.1=f
  ·rw[zT h];exact⟨λ_=> .inl h.symm,λ_=>rfl⟩
  ·rw[zF h];exact ih.trans ⟨.inr,λh'=>h'.resolve_left λe=>h e.symm⟩
theorem znr(m:Map)(a b:zf)(h:m7 m.1):∀(n j k:Nat),j+n=m.1.length->n<k->JN k (j:Int) m a b=vz m a b (ng a b ((m.1.take j).map λp=>p.1) (m.1.drop j) j)
 |n,j,0,_,hk=>by omega
 |0,j,k+1,hj,hk=>by unfold JN Tp;rw[zF (by omega),show m.1.drop j=[] from aP (by omega)];rfl
 |n+1,j,k+1,hj,hk=>by
  have hl:=h.len;have bS:j<m.1.length:=by omega
  obtain⟨h1,h2⟩:=h.sz _ (cB bS);have hg:∀d,m.1.getD j d=m.1[j]:=λd=>by rw[aq,au bS];rfl
  unfold JN Tp;rw[zT (by omega),zC,zi bS,aw,hg,zic _ _ (by rw[zh];omega),ap,aM bS];simp only[ng];cases v1:qa m.1[j].1 a.2.1 with
  |false=>
   have:vX m.1[j] a b=false:=by unfold vX;rw[v1];rfl
   rw[this,if_neg (by simp)];rfl
  |true=>
   simp only[ai,zD];rw[zic _ _ (by rw[zh];omega),ap];cases v2:qa m.1[j].2.1 b.2.1 with
   |false=>
    have:vX m.1[j] a b=false:=by unfold vX;rw[v1,v2];rfl
    rw[this,if_neg (by simp)];rfl
   |true=>
    simp only[ai,zD];rw[zgp _ (by rw[zh];omega),ap,zgp _ (by rw[zh];omega),ap];cases v3:(m6 m.1[j].1==m6 m.1[j].2.1) with
    |false=>
     have:vX m.1[j] a b=false:=by unfold vX;rw[v1,v2,v3];rfl
     rw[this,if_neg (by simp)];rfl
    |true=>
     have:vX m.1[j] a b=true:=by unfold vX;rw[v1,v2,v3];rfl
     rw[this,if_pos rfl];simp only[ai,zD];rw[zT (by omega:(0:Int)<=(j:Int)),zT (by omega:(j:Int)<=((m.1.length:Nat):Int)),zC,zC,aO,adj _ _ (by rw[aU,zh];omega),ap];have hm:=af5 m.1[j].1 (m.1.take j);by_cases lS:m.1[j].1∈(m.1.take j).map λp=>p.1
     ·rw[hm.2 lS,if_pos lS];rfl
     ·rw[JC hm lS,if_neg lS,zD,zu (by omega),znr m a b h n (j+1) k (by omega) (by omega)];congr 2;rw[jO,au bS,cz];rfl
def sE(x y:dN):Bool:=(!decide (x.2.1=0)&&decide (x.2.1=y.2.1))||(!decide (x.2.2.1=0)&&decide (x.2.2.1=y.2.2.1))
theorem akS(x y:dN):AP x y=some (sE x y):=by unfold AP WN sE;generalize decide (x.2.1=0)=c1;generalize decide (x.2.1=y.2.1)=c2;generalize decide (x.2.2.1=0)=c3;generalize decide (x.2.2.1=y.2.2.1)=c4;cases c1<;>cases c2<;>cases c3<;>cases c4<;>rfl
def wV(a b:zf):List dN->List dN->Int->ae (Int×Int)
 |_,[],_=>none
 |prev,r::l,i=>if mi r a b=0 then(if prev.any (λq=>sE q r)=true then some (10,i) else wV a b (prev++ [r]) l (i+1)) else some (mi r a b,i)
def zuc(o:ae (Int×Int)):ae (Sum qw Unit):=some (match o with
 |some e=> .inl (e.1,3,e.2)
 |none=> .inr ())
def SJ(m:Map)(a b:zf)(i:Int)(t:Bool):Sum (Int×Int×Int×Int×Map×zf×zf) (Int×Map×zf×zf):=bif t then .inl (10,3,i,i,m,a,b) else .inr (i,m,a,b)
theorem zzk{m:Map}{j:Nat}(bS:j<m.2.1.length)(d:dN):m.2.1.getD j d=m.2.1[j]:=by rw[aq,au bS];rfl
theorem zul(m:Map)(a b:zf)(i:Nat)(hi:i<m.2.1.length)(hl:m.2.1.length<=1000000):∀(n j k:Nat),j+n=i->n<k->JP k (i:Int) (j:Int) m a b=some (SJ m a b i (((m.2.1.take i).drop j).any λq=>sE q m.2.1[i]))
 |n,j,0,_,hk=>by omega
 |0,j,k+1,hj,hk=>by
  have:j=i:=by omega
  subst this;unfold JP Tr;rw[zF (by omega),aP (by rw[aU];omega)];rfl
 |n+1,j,k+1,hj,hk=>by
  have bS:j<m.2.1.length:=by omega
  unfold JP Tr;have hd:(m.2.1.take i).drop j=m.2.1[j]::(m.2.1.take i).drop (j+1):=by rw[aM (by rw[aU];omega)];congr 1;rw[jM]
  rw[zT (by omega),zC,zi bS,zi hi,aw,aw,zzk bS,zzk hi,akS,ap,hd,List.any_cons];cases sE m.2.1[j] m.2.1[i] with
  |true=>rfl
  |false=>rw[zD,zu (by omega)];dsimp only;rw[zul m a b i hi hl n (j+1) k (by omega) (by omega),dx]
theorem zi0(m:Map)(a b:zf)(h:mL m)(ha:a.2.2.1.length<=maxLen)(hb:b.2.2.1.length<=maxLen):∀(n j k:Nat),j+n=m.2.1.length->n<k->JO k (j:Int) m a b=zuc (wV a b (m.2.1.take j) (m.2.1.drop j) j)
 |n,j,0,_,hk=>by omega
 |0,j,k+1,hj,hk=>by unfold JO Tq;rw[zF (by omega),aP (by omega)];rfl
 |n+1,j,k+1,hj,hk=>by
  have hl:=h.len;have bS:j<m.2.1.length:=by omega
  unfold JO Tq;rw[zT (by omega),zC,zi bS,aw,zzk bS,adn _ a b (h.rules _ (cB bS)) ha hb,ap,aM bS];simp only[wV];by_cases z:mi m.2.1[j] a b=0
  ·rw[zT z,if_pos z];simp only[ai,zD];have ht:=zul m a b j bS hl j 0 bE (by omega) (by rw[zr];omega);rw[show((0:Nat):Int)=(0:Int) from rfl,aO] at ht;rw[ht,ap];cases(m.2.1.take j).any λq=>sE q m.2.1[j] with
   |true=>rw[if_pos rfl];rfl
   |false=>rw[if_neg (by simp)];unfold SJ WI;simp only[zD,cc];rw[zu (by omega),zi0 m a b h ha hb n (j+1) k (by omega) (by omega)];congr 2;rw[jO,au bS];rfl
  ·rw[zF z,if_neg z];rfl
def lX(m:Map)(a b:zf):Int×Int×Int:=
 if(pF a).1=0 then(if(pF b).1=0 then(if 256<m.1.length then(5,2,256) else match ng a b [] m.1 0 with
  |some e=>(e.1,2,e.2)
  |none=>if 256<m.2.1.length then(5,3,256) else match wV a b [] m.2.1 0 with
   |some e=>(e.1,3,e.2)
   |none=>(0,0,0)) else(1,1,1)) else(1,1,0)
theorem zq4(m:Map)(a b:zf)(h:mL m)(ha:a.2.2.1.length<=maxLen)(hb:b.2.2.1.length<=maxLen):AO m a b=some (lX m a b):=by
 have h1:=h.wN.len;have h2:=h.len;unfold AO WG lX;rw[zcv a ha,ap];by_cases za:(pF a).1=0
 ·rw[zT za,if_pos za];simp only[ai,zD];rw[zcv b hb,ap];by_cases zb:(pF b).1=0
  ·rw[zT zb,if_pos zb];simp only[ai,zD];by_cases hm:256<m.1.length
   ·rw[zT (by omega),if_pos hm];rfl
   ·rw[zF (by omega),if_neg hm,zD];have e1:=znr m a b h.wN m.1.length 0 bE (by omega) (by rw[zr];omega);rw[show((0:Nat):Int)=(0:Int) from rfl,cX,aO,List.map_nil] at e1;rw[e1];unfold vz;cases ng a b [] m.1 0 with
    |some e=>rfl
    |none=>
     simp only[ap,cc];unfold WH;by_cases hr:256<m.2.1.length
     ·rw[zT (by omega),if_pos hr];rfl
     ·rw[zF (by omega),if_neg hr,zD];have e2:=zi0 m a b h ha hb m.2.1.length 0 bE (by omega) (by rw[zr];omega);rw[show((0:Nat):Int)=(0:Int) from rfl,cX,aO] at e2;dsimp only;rw[e2];unfold zuc;cases wV a b [] m.2.1 0<;>rfl
  ·rw[zF zb,if_neg zb];rfl
 ·rw[zF za,if_neg za];rfl
theorem PL(l:List Int)(f:Int):my (l++ [f])=my l|||my [f]:=by simp [my,dE]
theorem PM(l:List Int)(f:Int):mz (l++ [f])=mz l|||mz [f]:=by simp [mz,dE]
theorem OS(fs:List Int)(f:Int):(my fs&&&my [f]=0/\mz fs&&&mz [f]=0)↔¬(f∈fs/\ru f=true):=by
 constructor
 ·rintro⟨h1,h2⟩ ⟨h3,h4⟩;have:=z194 (my fs) (mz fs) (my [f]) (mz [f]) f;rw[h1,h2,Pj,Y7,Y7,h4] at this;simp [h3] at this
 ·intro h;refine am0 (Sp (Cz fs)) (Sp (CA fs)) (by decide) (by decide) λn _ _=> ?_;rw[Pj,z194,Y7,Y7];by_cases e:n=f
  ·subst e;cases hr:ru n with
   |false=>simp
   |true=>have:n∉fs:=λhm=>h ⟨hm,hr⟩;simp [this]
  ·simp [e]
theorem Rb(x y:Nat):(decide (((x:Nat):Int)=0)&&(decide (((y:Nat):Int)=0)&&true))=decide (x=0/\y=0):=by rw[iB,<-Bool.decide_and];exact decide_eq_decide.2 (by omega)
theorem ztr{s:zf}(h:qd s){no:Int}(hh:eP s no=true):ru no=true:=by unfold eP oq at hh;obtain⟨x,hx⟩:=Option.isSome_iff_exists.1 hh;have h1:=jd hx;have h2:=cn hx;have h3:=Wi (h.2.2.2.1 x h2);have h4:x.1=no:=of_decide_eq_true h1;unfold ru;exact zT (by omega)
theorem aee{r:dN}{a b:zf}(h:mi r a b=0):mg r a b=false:=by
 unfold mi at h;cases hc:(decide (r.1<1)||decide ((5:Int)<r.1)) with
 |true=>rw[hc] at h;simp at h
 |false=>
  rw[hc] at h;cases he:mg r a b with
  |false=>rfl
  |true=>rw[he] at h;simp at h
theorem akJ{r:dN}{a b:zf}(ha:qd a)(hb:qd b)(h:mi r a b=0):(r.2.1≠0->ru r.2.1=true)/\(r.2.2.1≠0->ru r.2.2.1=true):=by
 have he:=aee h;unfold mg at he;rw[cF] at he;refine⟨λhz=> ?_,λhz=> ?_⟩
 ·by_cases k:r.1=3
  ·rw[zT k,zF hz] at he;simp at he
  ·rw[zF k] at he;exact ztr ha (by simpa using he.1)
 ·by_cases k:r.1=2
  ·rw[zT k,zF hz] at he;simp at he
  ·rw[zF k] at he;exact ztr hb (by simpa using he.2)
def nO(l:List dN):List Int:=l.map λq=>q.2.1
def zX(l:List dN):List Int:=l.map λq=>q.2.2.1
theorem QB:ru 0=false:=by decide
theorem ahG(prev:List dN)(r:dN)(h1:r.2.1≠0->ru r.2.1=true)(h2:r.2.2.1≠0->ru r.2.2.1=true):
 prev.any (λq=>sE q r)=(!decide (¬(r.2.1∈nO prev/\ru r.2.1=true))|| !decide (¬(r.2.2.1∈zX prev/\ru r.2.2.1=true))):=by
 have e:prev.any (λq=>sE q r)=true↔((r.2.1∈nO prev/\ru r.2.1=true)\/(r.2.2.1∈zX prev/\ru r.2.2.1=true)):=by
  rw[ke];unfold sE nO zX;simp only[bM];constructor
  ·rintro⟨q,hq,h⟩;simp only[Bool.or_eq_true,ar,Bool.not_eq_true',decide_eq_false_iff_not,decide_eq_true_eq] at h;rcases h with⟨g1,g2⟩|⟨g1,g2⟩
   ·exact .inl ⟨⟨q,hq,g2⟩,h1 (by rw[<-g2];exact g1)⟩
   ·exact .inr ⟨⟨q,hq,g2⟩,h2 (by rw[<-g2];exact g1)⟩
  ·rintro(⟨⟨q,hq,g⟩,hr⟩|⟨⟨q,hq,g⟩,hr⟩)
   ·refine⟨q,hq,?_⟩;have:q.2.1≠0:=λe=>by rw[<-g,e,QB] at hr;cases hr
    rw[zF this,zT g];rfl
   ·refine⟨q,hq,?_⟩;have:q.2.2.1≠0:=λe=>by rw[<-g,e,QB] at hr;cases hr
    rw[zF this,zT g];simp
 cases hb:prev.any (λq=>sE q r) with
 |true=>
  rcases e.1 hb with h|h
  ·rw[zF (λhn=>hn h)];rfl
  ·rw[show decide (¬(r.2.2.1∈zX prev/\ru r.2.2.1=true))=false from zF (λhn=>hn h)];simp
 |false=>
  have hn:=λh=>(by rw[hb] at e;exact absurd (e.2 h) (by simp):False)
  rw[zT (show¬(r.2.1∈nO prev/\ru r.2.1=true) from λh=>hn (.inl h)),zT (show¬(r.2.2.1∈zX prev/\ru r.2.2.1=true) from λh=>hn (.inr h))];rfl
abbrev S2:=Int×Int×Unit
def Gb(l:List Int):S2:=((my l:Int),(mz l:Int),())
theorem PK(a b:zf)(ha:a.2.2.1.length<=maxLen)(hb:b.2.2.1.length<=maxLen)(oa:qd a)(ob:qd b):∀(l:List dN) (i:Int) (prev:List dN),(∀r∈l,nF r)->
 fa (λi (x:dN) (s:S2×S2) K=>((ww x a b).bind λr3=>(bif(!decide (r3=0)) then some (Sum.inl (r3,(3:Int),i)) else((CC ([x.2.1]:List Int)).bind λr4=>((CC ([x.2.2.1]:List Int)).bind λr5=>((Ai s.1 r4).bind λr6=>(bif(!(decide (r6.1=0)&&(decide (r6.2.1=0)&&true))) then some (Sum.inl ((10:Int),(3:Int),i)) else((Ai s.2 r5).bind λr7=>(bif(!(decide (r7.1=0)&&(decide (r7.2.1=0)&&true))) then some (Sum.inl ((10:Int),(3:Int),i)) else((Bn s.1 r4).bind λr8=>((Bn s.2 r5).bind λr9=>K (r8,r9)))))))))))) (λ_=>some (Sum.inr ())) l i (Gb (nO prev),Gb (zX prev))=zuc (wV a b prev l i)
 | [],i,prev,_=>rfl
 |r::l,i,prev,h=>by
  simp only[fa,wV];rw[acE r a b (h r aW) ha hb,ap];by_cases z:mi r a b=0
  ·rw[zT z,if_pos z];simp only[ai,zD];obtain⟨i1,i2⟩:=akJ oa ob z;have wI:=ahG prev r i1 i2;rw[E9 _ (by simp [zh]),ap,E9 _ (by simp [zh]),ap];unfold Gb;rw[Rc _ _ _ _ (Cz _) (CA _) (Cz _) (CA _),ap];dsimp only;rw[Rb,decide_eq_decide.2 (OS (nO prev) r.2.1)];by_cases c1:¬(r.2.1∈nO prev/\ru r.2.1=true)
   ·rw[zT c1] at wI⊢;simp only[ai,zD];rw[Rc _ _ _ _ (Cz _) (CA _) (Cz _) (CA _),ap];dsimp only;rw[Rb,decide_eq_decide.2 (OS (zX prev) r.2.2.1)];by_cases c2:¬(r.2.2.1∈zX prev/\ru r.2.2.1=true)
    ·rw[zT c2] at wI⊢;rw[wI];simp only[ai,zD,jS];rw[if_neg (by simp),zdq _ _ _ _ (Cz _) (CA _) (Cz _) (CA _),ap,zdq _ _ _ _ (Cz _) (CA _) (Cz _) (CA _),ap];have:=PK a b ha hb oa ob l (i+1) (prev++ [r]) (λq hq=>h q (aG _ hq));rw[show nO (prev++ [r])=nO prev++ [r.2.1] by simp [nO],show zX (prev++ [r])=zX prev++ [r.2.2.1] by simp [zX]] at this;unfold Gb at this;rw[PL,PM,PL,PM] at this;exact this
    ·rw[zF c2] at wI⊢;rw[wI];rfl
   ·rw[zF c1] at wI⊢;rw[wI];rfl
  ·rw[zF z,if_neg z];rfl
theorem acF(m:Map)(a b:zf)(ha:a.2.2.1.length<=maxLen)(hb:b.2.2.1.length<=maxLen):Lf bE ([a,b]:List zf) ((ag ([a,b]:List zf)):Int) 0 m a b=some (if(pF a).1=0 then(if(pF b).1=0 then .inr (m,a,b) else .inl (1,1,1,m,a,b)) else .inl (1,1,0,m,a,b)):=by
 obtain⟨k,hk⟩:=Gc;rw[hk];simp only[Lf,YK];have w0:∀{R:Type} (x:ae R),zd 0 ([a,b]:List zf).length x=x:=λx=>zm (by omega) (by simp);have w1:∀{R:Type} (x:ae R),zd 1 ([a,b]:List zf).length x=x:=λx=>zm (by omega) (by simp);have e1:zW zI (0+1)=1:=rfl;have e2:zW zI (1+1)=2:=rfl;have d0:decide ((0:Int)<(([a,b]:List zf).length:Int))=true:=rfl;have d1:decide ((1:Int)<(([a,b]:List zf).length:Int))=true:=rfl;have d2:decide ((2:Int)<(([a,b]:List zf).length:Int))=false:=rfl;rw[d0,zC,w0,show List.getD ([a,b]:List zf) (0:Int).toNat ((0:Int),(0:Int),([]:List Spec),())=a from rfl,S7 a ha,ap];by_cases za:(pF a).1=0
 ·rw[zT za,if_pos za];simp only[ai,zD];rw[e1,d1,zC,w1,show List.getD ([a,b]:List zf) (1:Int).toNat ((0:Int),(0:Int),([]:List Spec),())=b from rfl,S7 b hb,ap];by_cases zb:(pF b).1=0
  ·rw[zT zb,if_pos zb];simp only[ai,zD];rw[e2,d2,zD]
  ·rw[zF zb,if_neg zb];rfl
 ·rw[zF za,if_neg za];rfl
abbrev p5:dN:=(0,0,0,bs [],[],())
theorem z7p(m:Map)(a b:zf)(h:mL m)(ha:a.2.2.1.length<=maxLen)(hb:b.2.2.1.length<=maxLen):yM m a b=some (lX m a b):=by
 have h1:=h.wN.len;have h2:=h.len;unfold yM YJ lX;dsimp only;rw[acF m a b ha hb,ap];by_cases za:(pF a).1=0
 ·rw[if_pos za,if_pos za];by_cases zb:(pF b).1=0
  ·rw[if_pos zb,if_pos zb];simp only[cc];unfold YL;by_cases hm:256<m.1.length
   ·rw[zT (by omega),if_pos hm];rfl
   ·rw[zF (by omega),if_neg hm,zD];dsimp only;rw[ag3 m a b h.wN];unfold vz;cases ng a b [] m.1 0 with
    |some e=>rfl
    |none=>
     simp only[ap,cc];unfold YM;by_cases hr:256<m.2.1.length
     ·rw[zT (by omega),if_pos hr];rfl
     ·rw[zF (by omega),if_neg hr,zD];dsimp only;have:=jz p5 m.2.1 (by rw[zh];omega) (λi (x:dN) (s:S2×S2) K=>((ww x a b).bind λr3=>(bif(!decide (r3=0)) then some (Sum.inl (r3,(3:Int),i)) else((CC ([x.2.1]:List Int)).bind λr4=>((CC ([x.2.2.1]:List Int)).bind λr5=>((Ai s.1 r4).bind λr6=>(bif(!(decide (r6.1=0)&&(decide (r6.2.1=0)&&true))) then some (Sum.inl ((10:Int),(3:Int),i)) else((Ai s.2 r5).bind λr7=>(bif(!(decide (r7.1=0)&&(decide (r7.2.1=0)&&true))) then some (Sum.inl ((10:Int),(3:Int),i)) else((Bn s.1 r4).bind λr8=>((Bn s.2 r5).bind λr9=>K (r8,r9)))))))))))) (λ_=>some (Sum.inr ()))
       (λk i s=>TU k m.2.1 (m.2.1.length:Int) i a b s.1 s.2) (λk i s=>rfl) (Gb (nO []),Gb (zX []))
      have h3:=PK a b ha hb ((G4 a).1 za) ((G4 b).1 zb) m.2.1 0 [] h.rules;rw[h3] at this;have h4:Gb (nO [])=((0:Int),(0:Int),()):=rfl;have h5:Gb (zX [])=((0:Int),(0:Int),()):=rfl;rw[h4,h5] at this;rw[this];unfold zuc;cases wV a b [] m.2.1 0<;>rfl
  ·rw[if_neg zb,if_neg zb];rfl
 ·rw[if_neg za,if_neg za];rfl
instance Vj:DecidableEq dN:=λx y=>decidable_of_iff ((decide (x.1=y.1)&&(decide (x.2.1=y.2.1)&&(decide (x.2.2.1=y.2.2.1)&&(decide (x.2.2.2.1=y.2.2.2.1)&&decide (x.2.2.2.2.1=y.2.2.2.2.1)))))=true) (by obtain⟨a1,a2,a3,a4,a5,u⟩:=x;obtain⟨b1,b2,b3,b4,b5,v⟩:=y;simp)
instance aaP:DecidableEq Map:=λx y=>decidable_of_iff ((decide (x.1=y.1)&&decide (x.2.1=y.2.1))=true) (by obtain⟨a1,a2,u⟩:=x;obtain⟨b1,b2,v⟩:=y;simp)
def Co(r:dN):dN:=(r.1,r.2.2.1,r.2.1,r.2.2.2.1,su r.2.2.2.2.1,())
def GX(m:Map):Map:=(su m.1,m.2.1.map Co,())
abbrev aaN:Map:=([],[],())
def am6(r:dN)(a b:zf):Bool:=
 bif decide (r.1=1) then(sB (dv a r.2.1) (dv b r.2.2.1)&&sB (dv b r.2.2.1) (dv a r.2.1)) else bif decide (r.1=4) then decide ((dv a r.2.1).2.2.2.1<=(dv b r.2.2.1).2.2.2.1) else bif decide (r.1=5) then bij r.2.2.2.2.1 else false
def aaJ(m:Map)(a b:zf):Bool:=decide ((lX m a b).1=0)&&(bij m.1&&m.2.1.all λr=>am6 r a b)
structure aoi(r:dN)(a b:zf):Prop where
 lo:¬r.1<1
 hi:¬(5:Int)<r.1
 ends:mg r a b=false
 text:qL r=false
 kind:sd r (dv a r.2.1) (dv b r.2.2.1)=0
theorem VF{a b:zf}:∀{l:List fe} {seen:List af} {i:Int},ng a b seen l i=none↔(∀p∈l,vX p a b=true)/\qW seen l i=none
 | [],seen,i=>by simp [ng,qW]
 |p::r,seen,i=>by
  simp only[ng,qW,aH,forall_eq_or_imp];cases ht:vX p a b with
  |false=>simp
  |true=>
   rw[if_pos rfl];by_cases hm:p.1∈seen
   ·simp [hm]
   ·rw[if_neg hm,if_neg hm,VF];simp
def K3:List dN->List dN->Prop
 |_,[]=>True
 |prev,r::l=>prev.any (λq=>sE q r)=false/\K3 (prev++ [r]) l
theorem Vw{a b:zf}:∀{l:List dN} {prev:List dN} {i:Int},wV a b prev l i=none↔(∀r∈l,mi r a b=0)/\K3 prev l
 | [],prev,i=>by simp [wV,K3]
 |r::l,prev,i=>by
  simp only[wV,K3,aH,forall_eq_or_imp];by_cases z:mi r a b=0
  ·rw[if_pos z];cases hp:prev.any (λq=>sE q r) with
   |true=>simp
   |false=>rw[if_neg (by simp),Vw];simp [z]
  ·rw[if_neg z];simp [z]
theorem zu5{a b:zf}:∀{l:List fe} {seen:List af} {i:Int} {e:Int×Int},ng a b seen l i=some e->e.1≠0
 |p::r,seen,i,e,h=>by
  simp only[ng] at h;split at h
  ·split at h
   ·cases h;simp
   ·exact zu5 h
  ·cases h;simp
theorem znw{a b:zf}:∀{l:List dN} {prev:List dN} {i:Int} {e:Int×Int},wV a b prev l i=some e->e.1≠0
 |r::l,prev,i,e,h=>by
  simp only[wV] at h;split at h
  ·split at h
   ·cases h;simp
   ·exact znw h
  ·rename_i hz;cases h;exact hz
structure nm(m:Map)(a b:zf):Prop where
 sa:(pF a).1=0
 sb:(pF b).1=0
 Og:m.1.length<=256
 typed:∀p∈m.1,vX p a b=true
 dup:qW [] m.1 0=none
 Oh:m.2.1.length<=256
 rules:∀r∈m.2.1,mi r a b=0
 Cp:K3 [] m.2.1
theorem zpn{m:Map}{a b:zf}:(lX m a b).1=0↔nm m a b:=by
 constructor
 ·intro h;unfold lX at h;split at h
  ·split at h
   ·rename_i h1 h2;split at h
    ·cases h
    ·rename_i h3;split at h
     ·rename_i e he;exact absurd h (zu5 he)
     ·rename_i hm;split at h
      ·cases h
      ·rename_i h4;split at h
       ·rename_i e he;exact absurd h (znw he)
       ·rename_i hr;obtain⟨g1,g2⟩:=VF.1 hm;obtain⟨g3,g4⟩:=Vw.1 hr;exact⟨h1,h2,by omega,g1,g2,by omega,g3,g4⟩
   ·cases h
  ·cases h
 ·intro h;unfold lX;have e1:=VF.2 ⟨h.typed,h.dup⟩;have e2:wV a b [] m.2.1 0=none:=Vw.2 ⟨h.rules,h.Cp⟩;have l1:=h.Og;have l2:=h.Oh;rw[if_pos h.sa,if_pos h.sb,if_neg (by omega),e1];simp only;rw[if_neg (by omega),e2]
theorem nm.eq{m:Map}{a b:zf}(h:nm m a b):lX m a b=(0,0,0):=by unfold lX;have e1:=VF.2 ⟨h.typed,h.dup⟩;have e2:wV a b [] m.2.1 0=none:=Vw.2 ⟨h.rules,h.Cp⟩;have l1:=h.Og;have l2:=h.Oh;rw[if_pos h.sa,if_pos h.sb,if_neg (by omega),e1];simp only;rw[if_neg (by omega),e2]
theorem m7.turn{l:List fe}(h:m7 l):m7 (su l):=⟨by rw[ahE];exact h.len,λp hp=>by unfold su at hp;obtain⟨q,hq,rfl⟩:=bM.1 hp;exact⟨(h.sz q hq).2,(h.sz q hq).1⟩⟩
theorem mL.turn{m:Map}(h:mL m):mL (GX m):=⟨h.wN.turn,by show(m.2.1.map Co).length<=_;rw[List.length_map];exact h.len,λr hr=>by obtain⟨q,hq,rfl⟩:=bM.1 (show r∈m.2.1.map Co from hr);exact⟨(h.rules q hq).text,(h.rules q hq).nR.turn⟩⟩
theorem akh(l:List eD)(no:Int)(t:af):(uk l no t).length=l.length+1:=by
 unfold uk;rcases SN no l 0 (dw _) with⟨h1,_⟩|h1
 ·rw[h1,zT (by omega:(-1:Int)<0),zC,aJ];rfl
 ·rw[zF (by omega:¬ix no l 0<0),zD,aJ,aU,aF,bW];omega
theorem V2(m:fX)(no:Int)(t:af):(mV m no t).2.1.length<=m.2.1.length+1:=by show(uk (nw m.2.1 no) no t).length<=_;rw[akh];have:=O1 m.2.1 no;omega
theorem ak3(m:Map)(t:af)(h:m.1.length<=maxLen):Bm m t=some (zw m.1 t):=by
 unfold Bm YU;dsimp only;have:=jz qI m.1 h (λi (x:fe) (s:Unit) K=>bif decide (x.1=t) then some (Sum.inl (x.2.1,true)) else K s) (λ_=>some (Sum.inr ()))
  (λk i s=>TY k t m.1 (m.1.length:Int) i) (λk i s=>rfl) ()
 rw[this,zca];unfold zw;cases m.1.find? λp=>decide (p.1=t)<;>rfl
def nx(m:Map)(no:Int):ae dN:=m.2.1.find? λr=>decide (r.2.1=no)
def Ga(o:ae dN):ae (Sum (Bool×dN) dN):=some (match o with
 |some r=> .inl (true,r)
 |none=> .inr p5)
theorem Qr(no:Int):∀(l:List dN) (i:Int),fa (λi (x:dN) (s:Unit) K=>(bif(decide (x.2.1=no)) then some (Sum.inl (true,x)) else K s)) (λ_=>some (Sum.inr p5)) l i ()=Ga (l.find? λr=>decide (r.2.1=no))
 | [],i=>rfl
 |x::r,i=>by
  rw[fa,eJ];cases hx:decide (x.2.1=no) with
  |true=>rfl
  |false=>rw[zD];exact Qr no r (i+1)
theorem ahW(m:Map)(no:Int)(h:m.2.1.length<=maxLen):wC m no=some (match nx m no with
 |some r=>(r,true)
 |none=>(p5,false)):=by
 unfold wC YS nx;dsimp only;have:=jz p5 m.2.1 h (λi (x:dN) (s:Unit) K=>(bif(decide (x.2.1=no)) then some (Sum.inl (true,x)) else K s)) (λ_=>some (Sum.inr p5))
  (λk i s=>TX k no m.2.1 (m.2.1.length:Int) i p5) (λk i s=>rfl) ()
 rw[this,Qr];unfold Ga;cases m.2.1.find? λr=>decide (r.2.1=no)<;>rfl
def z31:List dN->fX->fX
 | [],out=>out
 |r::l,out=>z31 l (bif decide (r.1=3) then mV out r.2.2.1 r.2.2.2.1 else out)
theorem zah:∀(l:List dN) (out:fX),(z31 l out).2.1.length<=out.2.1.length+l.length
 | [],out=>bg _
 |r::l,out=>by
  rw[z31,aF];cases decide (r.1=3) with
  |true=>rw[zC];have:=zah l (mV out r.2.2.1 r.2.2.2.1);have:=V2 out r.2.2.1 r.2.2.2.1;omega
  |false=>rw[zD];have:=zah l out;omega
theorem zd7{ρ:Type}(fin:fX->ae ρ):∀(l:List dN) (i:Int) (out:fX),out.2.1.length+l.length<=1000000->
 fa (λi (x:dN) (s:fX) K=>(bif(decide (x.1=(3:Int))) then((pJ s x.2.2.1 x.2.2.2.1).bind λr4=>K r4) else K s)) fin l i out=fin (z31 l out)
 | [],i,out,_=>rfl
 |r::l,i,out,h=>by
  simp only[aF] at h;rw[fa,z31];cases decide (r.1=3) with
  |true=>rw[zC,zC,V4 out _ _ (by omega),zc];have:=V2 out r.2.2.1 r.2.2.2.1;exact zd7 fin l (i+1) _ (by omega)
  |false=>rw[zD,zD];exact zd7 fin l (i+1) out (by omega)
def Hg(m:Map)(b:zf):List eD->fX->Sum (gS×fX) fX
 | [],out=> .inr out
 |v::r,out=>match nx m v.1 with
  |none=> .inl ((9,v.1,()),out)
  |some q=>bif !decide ((oN q b v.2.1).2=0) then .inl (((oN q b v.2.1).2,v.1,()),out) else Hg m b r (bif !decide ((oN q b v.2.1).1.1=0) then mV out (oN q b v.2.1).1.1 (oN q b v.2.1).1.2.1 else out)
abbrev lY:fX:=(bs [],[],())
def Qo(o:Sum (gS×fX) fX):ae (Sum (fX×gS×fX) (fX×gS×fX)):=some (match o with
 | .inl (f,out)=> .inl (lY,f,out)
 | .inr out=> .inr (lY,sD,out))
theorem KW{m:Map}{no:Int}{r:dN}(h:nx m no=some r):r∈m.2.1/\r.2.1=no:=⟨cn h,by simpa using jd h⟩
theorem zam(m:Map)(b:zf)(hm:mL m)(hb:b.2.2.1.length<=maxLen):∀(l:List eD) (i:Int) (out:fX),out.2.1.length+l.length<=1000000->(∀v∈l,v.2.1.size<=1099511627776)->
 fa (λi (x:eD) (s:fX) K=>((wC m x.1).bind λr5=>(bif(!r5.2) then some (Sum.inl (lY,((9:Int),x.1,()),s)) else((wv r5.1 b x.2.1).bind λr6=>(bif(!(decide (r6.2=(0:Int)))) then some (Sum.inl (lY,(r6.2,x.1,()),s)) else(bif(!(decide (r6.1.1=(0:Int)))) then((pJ s r6.1.1 r6.1.2.1).bind λr7=>K r7) else K s)))))) (λs=>some (Sum.inr (lY,sD,s))) l i out=Qo (Hg m b l out)
 | [],i,out,_,_=>rfl
 |v::r,i,out,h,ht=>by
  simp only[aF] at h;have hl:=hm.len;have hv:=ht v aW;rw[fa,ahW m v.1 (by rw[zh];omega),zc,Hg];cases hf:nx m v.1 with
  |none=>rfl
  |some q=>
   dsimp only;obtain⟨q1,_⟩:=KW hf;have qp:=(hm.rules q q1).nR.len;rw[ai,zD,acD q b v.2.1 (by rw[zh];omega) hb (by rw[zh];omega),zc];generalize oN q b v.2.1=y;cases decide (y.2=0) with
   |false=>rfl
   |true=>
    rw[ai,zD,zD];cases decide (y.1.1=0) with
    |true=>rw[ai,zD,zD];exact zam m b hm hb r (i+1) out (by omega) (λw hw=>ht w (aG _ hw))
    |false=>rw[aV,zC,zC,V4 out _ _ (by omega),zc];have:=V2 out y.1.1 y.1.2.1;exact zam m b hm hb r (i+1) _ (by omega) (λw hw=>ht w (aG _ hw))
def Af(m:Map)(a b:zf)(x:fX):fX×gS:=
 bif !decide ((lX m a b).1=0) then(lY,(1,-1,())) else bif !decide ((oY a x).1=0) then(lY,oY a x) else bif !(zw m.1 x.1).2 then(lY,(7,0,()))
 else match Hg m b x.2.1 (z31 m.2.1 ((zw m.1 x.1).1,[],())) with
  | .inl (f,_)=>(lY,f)
  | .inr out=>(out,sD)
theorem acp(m:Map)(a b:zf)(x:fX)(hm:mL m)(hm2:m.2.1.length<=900000)(hx:nq x)(Gz:x.2.1.length<=90000)(ha:a.2.2.1.length<=maxLen)(hb:b.2.2.1.length<=maxLen):yN m a b x=some (Af m a b x):=by
 have hl:=hm.wN.len;unfold yN YP Af;rw[z7p m a b hm ha hb,zc];cases decide ((lX m a b).1=0) with
 |false=>rfl
 |true=>
  rw[ai,zD,zD,znq a x ha hx,zc];cases decide ((oY a x).1=0) with
  |false=>rfl
  |true=>
   rw[ai,zD,zD,ak3 m x.1 (by rw[zh];omega),zc];cases(zw m.1 x.1).2 with
   |false=>rfl
   |true=>
    rw[ai,zD,zD];dsimp only;have h1:=jz p5 m.2.1 (by rw[zh];omega) (λi (x:dN) (s:fX) K=>(bif(decide (x.1=(3:Int))) then((pJ s x.2.2.1 x.2.2.2.1).bind λr4=>K r4) else K s)) (λs=>some (m,b,x,lY,sD,s))
     (λk i s=>TV k m.2.1 (m.2.1.length:Int) i m b x lY sD s) (λk i s=>rfl) ((zw m.1 x.1).1,[],())
    rw[h1,zd7 _ _ _ _ (by simp;omega),zc];unfold YQ;dsimp only;have hc:=zah m.2.1 ((zw m.1 x.1).1,[],());have hc:(z31 m.2.1 ((zw m.1 x.1).1,[],())).2.1.length<=m.2.1.length:=by simpa using hc
    have h2:=jz vF x.2.1 (by rw[zh];omega) (λi (x:eD) (s:fX) K=>((wC m x.1).bind λr5=>(bif(!r5.2) then some (Sum.inl (lY,((9:Int),x.1,()),s)) else((wv r5.1 b x.2.1).bind λr6=>(bif(!(decide (r6.2=(0:Int)))) then some (Sum.inl (lY,(r6.2,x.1,()),s)) else(bif(!(decide (r6.1.1=(0:Int)))) then((pJ s r6.1.1 r6.1.2.1).bind λr7=>K r7) else K s)))))) (λs=>some (Sum.inr (lY,sD,s)))
     (λk i s=>TW k x.2.1 (x.2.1.length:Int) i m b lY sD s) (λk i s=>rfl) (z31 m.2.1 ((zw m.1 x.1).1,[],()))
    rw[h2,zam m b hm hb _ _ _ (by omega) hx.Aq];unfold Qo;cases Hg m b x.2.1 (z31 m.2.1 ((zw m.1 x.1).1,[],())) with
    |inl p=>obtain⟨f,o⟩:=p;rfl
    |inr o=>rfl
abbrev rM(l:List eD):Prop:=l.Pairwise λx y=>x.1<y.1
def ui(no:Int)(t:af):List eD->List eD
 | []=>[(no,t,())]
 |x::r=>if no<x.1 then(no,t,())::x::r else x::ui no t r
theorem znl(no:Int):∀(l:List eD) (i d:Int),0<=i->0<=d->ix no l (i+d)=if ix no l i<0 then-1 else ix no l i+d
 | [],i,d,_,_=>by unfold ix;rw[if_pos (by omega)]
 |x::r,i,d,hi,hd=>by
  unfold ix;by_cases hx:no<x.1
  ·rw[if_pos hx,if_pos hx,if_neg (by omega)]
  ·rw[if_neg hx,if_neg hx,show i+d+1=(i+1)+d by omega];exact znl no r (i+1) d (by omega) hd
theorem zzb(no:Int)(t:af):∀l:List eD,uk l no t=ui no t l
 | []=>rfl
 |x::r=>by
  have ih:=zzb no t r;unfold uk at ih⊢;unfold ui;by_cases hx:no<x.1
  ·have:ix no (x::r) 0=0:=by unfold ix;rw[if_pos hx]
   rw[this,if_pos hx];rfl
  ·rw[if_neg hx,<-ih];have h0:ix no (x::r) 0=ix no r (0+1):=by show(if no<x.1 then(0:Int) else ix no r (0+1))=_;rw[if_neg hx]
   rw[h0,znl no r 0 1 (by omega) (by omega)];rcases SN no r 0 (dw _) with⟨h1,_⟩|h1
   ·rw[h1,if_pos (by omega)];rfl
   ·rw[if_neg (by omega),zF (by omega:¬ix no r 0+1<0),zF (by omega:¬ix no r 0<0),zD,zD];have:(ix no r 0+1).toNat=(ix no r 0).toNat+1:=by omega
    rw[this];rfl
theorem zpm(no:Int)(t:af)(v:eD):∀l:List eD,v∈ui no t l↔v=(no,t,())\/v∈l
 | []=>by simp [ui]
 |x::r=>by
  unfold ui;split
  ·simp
  ·rw[aH,zpm no t v r,aH];constructor
   ·rintro(h|h|h)
    ·exact .inr (.inl h)
    ·exact .inl h
    ·exact .inr (.inr h)
   ·rintro(h|h|h)
    ·exact .inr (.inl h)
    ·exact .inl h
    ·exact .inr (.inr h)
theorem QC(no:Int)(t:af):∀{l:List eD},rM l->(∀x∈l,x.1≠no)->rM (ui no t l)
 | [],_,_=>by simp [ui,rM]
 |x::r,h,hn=>by
  have hx:=hn x aW;rw[rM,bF] at h;unfold ui;split
  ·rename_i bS;refine bF.2 ⟨λy hy=> ?_,bF.2 h⟩;rcases aH.1 hy with rfl|hy
   ·exact bS
   ·have:=h.1 y hy;show no<y.1;omega
  ·rename_i bS;refine bF.2 ⟨λy hy=> ?_,QC no t h.2 (λz hz=>hn z (aG _ hz))⟩;rcases(zpm no t y r).1 hy with rfl|hy
   ·show x.1<no;omega
   ·exact h.1 y hy
theorem O2{l:List eD}{no:Int}{v:eD}:v∈nw l no↔v∈l/\v.1≠no:=by unfold nw;rw[bc];simp
theorem V3(m:fX)(no:Int)(t:af)(v:eD):v∈(mV m no t).2.1↔v=(no,t,())\/(v∈m.2.1/\v.1≠no):=by show v∈uk (nw m.2.1 no) no t↔_;rw[zzb,zpm,O2]
theorem zid{m:fX}(h:rM m.2.1)(no:Int)(t:af):rM (mV m no t).2.1:=by show rM (uk (nw m.2.1 no) no t);rw[zzb];exact QC no t (h.filter _) (λx hx=>(O2.1 hx).2)
theorem RX:∀{l r:List eD},rM l->rM r->(∀v,v∈l↔v∈r)->l=r
 | [],[],_,_,_=>rfl
 | [],y::r,_,_,h=>by have:=(h y).2 aW;cases this
 |x::l,[],_,_,h=>by have:=(h x).1 aW;cases this
 |x::l,y::r,hl,hr,h=>by
  have sP:=bF.1 hl;have hr':=bF.1 hr;have e:x=y:=by
   rcases aH.1 ((h x).1 aW) with e|e
   ·exact e
   ·rcases aH.1 ((h y).2 aW) with e2|e2
    ·exact e2.symm
    ·have a1:=hr'.1 x e;have a2:=sP.1 y e2;omega
  subst e;congr 1;refine RX sP.2 hr'.2 λv=>⟨λhv=> ?_,λhv=> ?_⟩
  ·rcases aH.1 ((h v).1 (aG _ hv)) with e|e
   ·subst e;have:=sP.1 _ hv;omega
   ·exact e
  ·rcases aH.1 ((h v).2 (aG _ hv)) with e|e
   ·subst e;have:=hr'.1 _ hv;omega
   ·exact e
def AE:List eD->fX->fX
 | [],out=>out
 |v::l,out=>AE l (mV out v.1 v.2.1)
def rE(l:List eD):Prop:=l.Pairwise λx y=>x.1≠y.1
theorem znt:∀(l:List eD) (out:fX),(AE l out).1=out.1
 | [],out=>rfl
 |v::l,out=>znt l _
theorem zu9:∀(l:List eD) {out:fX},rM out.2.1->rM (AE l out).2.1
 | [],out,h=>h
 |v::l,out,h=>zu9 l (zid h v.1 v.2.1)
theorem zu8:∀(l:List eD) (out:fX),rE l->(∀v∈l,∀w∈out.2.1,v.1≠w.1)->∀v,v∈(AE l out).2.1↔v∈out.2.1\/v∈l
 | [],out,_,_,v=>by simp [AE]
 |x::l,out,ha,hd,v=>by
  have Ge:=bF.1 ha;have hx:(x.1,x.2.1,())=x:=rfl;rw[AE,zu8 l _ Ge.2 (λy hy w hw=> ?_) v,V3,hx,aH]
  ·constructor
   ·rintro((h|h)|h)
    ·exact .inr (.inl h)
    ·exact .inl h.1
    ·exact .inr (.inr h)
   ·rintro(h|h|h)
    ·exact .inl (.inr ⟨h,λe=>hd x aW v h e.symm⟩)
    ·exact .inl (.inl h)
    ·exact .inr h
  ·rcases(V3 out x.1 x.2.1 w).1 hw with e|e
   ·rw[e];exact λh=>Ge.1 y hy h.symm
   ·exact hd y (aG _ hy) w e.1
theorem zdo:∀(l r:List eD) (out:fX),AE (l++r) out=AE r (AE l out)
 | [],r,out=>rfl
 |v::l,r,out=>zdo l r _
def rD(l:List dN):List eD:=(l.filter λr=>decide (r.1=3)).map λr=>(r.2.2.1,r.2.2.2.1,())
theorem zai:∀(l:List dN) (out:fX),z31 l out=AE (rD l) out
 | [],out=>rfl
 |r::l,out=>by
  rw[z31];unfold rD;rw[dQ];cases decide (r.1=3) with
  |true=>exact zai l _
  |false=>exact zai l _
def sC(m:Map)(b:zf):List eD->Sum gS (List eD)
 | []=> .inr []
 |v::r=>match nx m v.1 with
  |none=> .inl (9,v.1,())
  |some q=>bif !decide ((oN q b v.2.1).2=0) then .inl ((oN q b v.2.1).2,v.1,()) else match sC m b r with
   | .inl f=> .inl f
   | .inr ys=> .inr ((oN q b v.2.1).1::ys)
def jr(l:List eD):List eD:=l.filter λv=> !decide (v.1=0)
theorem zal(m:Map)(b:zf):∀(l:List eD) (out:fX),(∃f o,Hg m b l out= .inl (f,o)/\sC m b l= .inl f)\/(∃ys,Hg m b l out= .inr (AE (jr ys) out)/\sC m b l= .inr ys)
 | [],out=> .inr ⟨[],rfl,rfl⟩
 |v::r,out=>by
  rw[Hg,sC];cases nx m v.1 with
  |none=>exact .inl ⟨_,_,rfl,rfl⟩
  |some q=>
   dsimp only;generalize oN q b v.2.1=y;cases decide (y.2=0) with
   |false=>exact .inl ⟨_,_,rfl,rfl⟩
   |true=>
    rw[ai,zD,zD];cases hz:decide (y.1.1=0) with
    |true=>
     rw[ai,zD];rcases zal m b r out with⟨f,o,h1,h2⟩|⟨ys,h1,h2⟩
     ·exact .inl ⟨f,o,h1,by rw[h2]⟩
     ·refine .inr ⟨y.1::ys,?_,by rw[h2]⟩;rw[h1];have:jr (y.1::ys)=jr ys:=by unfold jr;rw[dQ,hz];rfl
      rw[this]
    |false=>
     rw[aV,zC];rcases zal m b r (mV out y.1.1 y.1.2.1) with⟨f,o,h1,h2⟩|⟨ys,h1,h2⟩
     ·exact .inl ⟨f,o,h1,by rw[h2]⟩
     ·refine .inr ⟨y.1::ys,?_,by rw[h2]⟩;rw[h1];have:jr (y.1::ys)=y.1::jr ys:=by unfold jr;rw[dQ,hz];rfl
      rw[this];rfl
theorem SM{m:Map}{b:zf}:∀{l ys:List eD},sC m b l= .inr ys->∀y∈ys,∃v∈l,∃q,nx m v.1=some q/\(oN q b v.2.1).2=0/\y=(oN q b v.2.1).1
 | [],ys,h,y,hy=>by cases h;cases hy
 |v::r,ys,h,y,hy=>by
  rw[sC] at h;cases hf:nx m v.1 with
  |none=>rw[hf] at h;cases h
  |some q=>
   rw[hf] at h;dsimp only at h;cases hz:decide ((oN q b v.2.1).2=0) with
   |false=>rw[hz] at h;cases h
   |true=>
    rw[hz,ai,zD] at h;cases hr:sC m b r with
    |inl f=>rw[hr] at h;cases h
    |inr zs=>
     rw[hr] at h;cases h;rcases aH.1 hy with rfl|hy
     ·exact⟨v,aW,q,hf,of_decide_eq_true hz,rfl⟩
     ·obtain⟨w,hw,q',g⟩:=SM hr y hy;exact⟨w,aG _ hw,q',g⟩
theorem aer(x y:dN):sE x y=sE y x:=by
 unfold sE;have e1:(!decide (x.2.1=0)&&decide (x.2.1=y.2.1))=(!decide (y.2.1=0)&&decide (y.2.1=x.2.1)):=by
  by_cases h:x.2.1=y.2.1
  ·rw[h]
  ·rw[zF h,zF (show¬y.2.1=x.2.1 from λe=>h e.symm),eR,eR]
 have e2:(!decide (x.2.2.1=0)&&decide (x.2.2.1=y.2.2.1))=(!decide (y.2.2.1=0)&&decide (y.2.2.1=x.2.2.1)):=by
  by_cases h:x.2.2.1=y.2.2.1
  ·rw[h]
  ·rw[zF h,zF (show¬y.2.2.1=x.2.2.1 from λe=>h e.symm),eR,eR]
 rw[e1,e2]
theorem zhu:∀{l prev:List dN},K3 prev l->l.Pairwise (λx y=>sE x y=false)/\∀p∈prev,∀x∈l,sE p x=false
 | [],prev,h=>⟨hN,λ_ _ x hx=>by cases hx⟩
 |r::l,prev,h=>by
  obtain⟨h1,h2⟩:=h;obtain⟨i1,i2⟩:=zhu h2;have hp:∀p∈prev,sE p r=false:=λp hp=>by have:=List.any_eq_false.1 h1 p hp;simpa using this
  refine⟨bF.2 ⟨λy hy=>i2 r (by simp) y hy,i1⟩,λp hp' x hx=> ?_⟩;rcases aH.1 hx with rfl|hx
  ·exact hp p hp'
  ·exact i2 p (by simp [hp']) x hx
theorem zia{x y:dN}(h:sE x y=false)(hx:x.2.2.1≠0):x.2.2.1≠y.2.2.1:=by intro e;unfold sE at h;rw[cF] at h;have:=h.2;rw[zF hx,zT e] at this;cases this
theorem z168{l:List dN}(h:l.Pairwise λx y=>sE x y=false):∀x∈l,∀y∈l,x≠y->sE x y=false:=by
 induction l with
 |nil=>intro x hx;cases hx
 |cons r l ih=>
  obtain⟨h1,h2⟩:=bF.1 h;intro x hx y hy fL;rcases aH.1 hx with e1|hx1
  ·rcases aH.1 hy with e2|hy1
   ·exact absurd (e1.trans e2.symm) fL
   ·rw[e1];exact h1 y hy1
  ·rcases aH.1 hy with e2|hy1
   ·rw[aer,e2];exact h1 x hx1
   ·exact ih h2 x hx1 y hy1 fL
theorem Js{s:zf}:∀{l:List eD} {last:Int},Ay s l last=none↔(∀v∈l,eP s v.1=true/\fK (dv s v.1) v.2.1=0)/\rM l/\∀v∈l,last<v.1
 | [],last=>by simp [Ay,rM]
 |x::r,last=>by
  rw[Ay];by_cases h1:x.1<=last
  ·rw[zT h1,zC];refine⟨λh=>(by cases h),λh=> ?_⟩;have:=h.2.2 x aW;omega
  rw[zF h1,zD];cases h2:eP s x.1 with
  |false=>refine⟨λh=>(by cases h),λh=> ?_⟩;have:=(h.1 x aW).1;rw[h2] at this;cases this
  |true=>
   rw[ai,zD];by_cases h3:fK (dv s x.1) x.2.1=0
   ·rw[zT h3,ai,zD,Js];constructor
    ·rintro⟨g1,g2,g3⟩;refine⟨λv hv=> ?_,bF.2 ⟨g3,g2⟩,λv hv=> ?_⟩
     ·rcases aH.1 hv with rfl|hv
      ·exact⟨h2,h3⟩
      ·exact g1 v hv
     ·rcases aH.1 hv with rfl|hv
      ·omega
      ·have:=g3 v hv;omega
    ·rintro⟨g1,g2,g3⟩;have g2:=bF.1 g2;exact⟨λv hv=>g1 v (aG _ hv),g2.2,g2.1⟩
   ·rw[zF h3,aV,zC];refine⟨λh=>(by cases h),λh=> ?_⟩;exact absurd (h.1 x aW).2 h3
theorem zhj{s:zf}:∀{l:List eD} {last:Int} {f:gS},Ay s l last=some f->f.1≠0
 | [],last,f,h=>by cases h
 |x::r,last,f,h=>by
  rw[Ay] at h;cases h1:decide (x.1<=last) with
  |true=>rw[h1] at h;cases h;exact(by decide:(11:Int)≠0)
  |false=>
   rw[h1,zD] at h;cases h2:eP s x.1 with
   |false=>rw[h2] at h;cases h;exact(by decide:(9:Int)≠0)
   |true=>
    rw[h2,ai,zD] at h;by_cases h3:fK (dv s x.1) x.2.1=0
    ·rw[zT h3,ai,zD] at h;exact zhj h
    ·rw[zF h3,aV,zC] at h;cases h;exact h3
structure sJ(s:zf)(m:fX):Prop where
 p6:(pF s).1=0
 right:n8 m.1=true
 ver:oM m.1=s.2.1
 qZ:Ay s m.2.1 0=none
theorem Tf{s:zf}{m:fX}:(oY s m).1=0↔sJ s m:=by
 unfold oY;by_cases h1:(pF s).1=0
 ·rw[zT h1,ai,zD];cases h2:n8 m.1 with
  |false=>exact⟨λh=>absurd h (show¬(7:Int)=0 by decide),λh=>by have:=h.right;rw[h2] at this;cases this⟩
  |true=>
   rw[ai,zD];by_cases h3:oM m.1=s.2.1
   ·rw[zT h3,ai,zD];cases h4:Ay s m.2.1 0 with
    |none=>exact⟨λ_=>⟨h1,h2,h3,h4⟩,λ_=>rfl⟩
    |some f=>exact⟨λh=>absurd h (zhj h4),λh=>by have:=h.qZ;rw[h4] at this;cases this⟩
   ·rw[zF h3];exact⟨λh=>absurd h (show¬(7:Int)=0 by decide),λh=>absurd h.ver h3⟩
 ·rw[zF h1];exact⟨λh=>absurd h (show¬(1:Int)=0 by decide),λh=>absurd h.p6 h1⟩
theorem sJ.eq{s:zf}{m:fX}(h:sJ s m):oY s m=sD:=by unfold oY;rw[zT h.p6,h.right,zT h.ver,h.qZ];rfl
theorem Jw{s:zf}(h:qd s){no:Int}(hh:eP s no=true):2<=no/\no<=128:=by have:=(zny (VZ h hh)).1;rw[(Wd hh).2] at this;exact this
theorem S0{q:dN}{b:zf}{t:af}(h:(oN q b t).2=0)(hz:(oN q b t).1.1≠0):q.1≠2/\(oN q b t).1.1=q.2.2.1:=by
 unfold oN at h hz⊢;by_cases k1:q.1=1
 ·rw[zT k1,zC];exact⟨by omega,rfl⟩
 rw[zF k1,zD] at h hz⊢;by_cases k2:q.1=2
 ·rw[zT k2,zC] at hz;exact absurd rfl hz
 rw[zF k2,zD] at h hz⊢;refine⟨k2,?_⟩;by_cases k3:q.1=3
 ·rw[zT k3,zC]
 rw[zF k3,zD] at h hz⊢;by_cases k4:q.1=4
 ·rw[zT k4,zC] at h hz⊢;cases hs:eP b q.2.2.1 with
  |false=>rw[hs] at h;cases h
  |true=>
   rw[hs] at h;rw[ai,zD] at h⊢;cases hp:(nZ t (dv b q.2.2.1).2.2.2.1).2 with
   |false=>rw[hp] at h;cases h
   |true=>rfl
 rw[zF k4,zD] at h hz⊢;by_cases k5:q.1=5
 ·rw[zT k5,zC] at h hz⊢;cases hp:(zw q.2.2.2.2.1 t).2 with
  |false=>rw[hp] at h;cases h
  |true=>rfl
 ·rw[zF k5,zD] at hz;exact absurd rfl hz
theorem KZ{l:List eD}{v:eD}:v∈jr l↔v∈l/\v.1≠0:=by unfold jr;rw[bc];simp
section
variable {m:Map} {a b:zf}
theorem nm.nR(h:nm m a b):m.2.1.Pairwise λx y=>sE x y=false:=(zhu h.Cp).1
theorem nm.okA(h:nm m a b):qd a:=(G4 a).1 h.sa
theorem nm.okB(h:nm m a b):qd b:=(G4 b).1 h.sb
theorem nm.to(h:nm m a b){r:dN}(hr:r∈m.2.1)(k:r.1≠2):eP b r.2.2.1=true:=(zhg (VH (h.rules r hr)).2.1).2.2.2 k
theorem nm.Vl(h:nm m a b){r:dN}(hr:r∈m.2.1)(k:r.1≠2):r.2.2.1≠0:=by have:=Jw h.okB (h.to hr k);omega
theorem z173(h:nm m a b):∀{l ys:List eD},rM l->sC m b l= .inr ys->rE (jr ys)
 | [],ys,_,hy=>by cases hy;exact hN
 |v::r,ys,hr,hy=>by
  rw[sC] at hy;have hr:=bF.1 hr;cases hf:nx m v.1 with
  |none=>rw[hf] at hy;cases hy
  |some q=>
   rw[hf] at hy;dsimp only at hy;cases hz:decide ((oN q b v.2.1).2=0) with
   |false=>rw[hz] at hy;cases hy
   |true=>
    rw[hz,ai,zD] at hy;cases hv:sC m b r with
    |inl f=>rw[hv] at hy;cases hy
    |inr zs=>
     rw[hv] at hy;cases hy;have ih:=z173 h hr.2 hv;unfold jr at ih⊢;rw[dQ];split
     ·rename_i hnz;have hnz:(oN q b v.2.1).1.1≠0:=by simpa using hnz
      refine bF.2 ⟨λz hzm=> ?_,ih⟩;obtain⟨z1,z2⟩:=KZ.1 hzm;obtain⟨w,hw,q',hf',h0',rfl⟩:=SM hv z z1;obtain⟨a1,a2⟩:=S0 (of_decide_eq_true hz) hnz;obtain⟨b1,b2⟩:=S0 h0' z2;rw[a2,b2];obtain⟨qm,qf⟩:=KW hf;obtain⟨qm',qf'⟩:=KW hf';have bS:=hr.1 w hw;have fL:q≠q':=λe=>by subst e;omega
      exact zia (z168 h.nR q qm q' qm' fL) (h.Vl qm a1)
     ·exact ih
theorem VC{l:List dN}{v:eD}:v∈rD l↔∃r∈l,r.1=3/\v=(r.2.2.1,r.2.2.2.1,()):=by
 unfold rD;rw[bM];constructor
 ·rintro⟨r,hr,rfl⟩;rw[bc] at hr;exact⟨r,hr.1,of_decide_eq_true hr.2,rfl⟩
 ·rintro⟨r,hr,k,rfl⟩;exact⟨r,bc.2 ⟨hr,zT k⟩,rfl⟩
theorem acv(h:nm m a b):rE (rD m.2.1):=by unfold rD;refine List.pairwise_map.2 ?_;refine jD ?_ (h.nR.filter _);intro x y hx hy GD;have hx:=bc.1 hx;have k:x.1=3:=of_decide_eq_true hx.2;exact zia GD (h.Vl hx.1 (by omega))
theorem acT(h:nm m a b){l ys:List eD}(hl:∀v∈l,eP a v.1=true)(hy:sC m b l= .inr ys):∀c∈rD m.2.1,∀y∈jr ys,c.1≠y.1:=by
 intro c hc y hym;obtain⟨r,hr,k,rfl⟩:=VC.1 hc;obtain⟨y1,y2⟩:=KZ.1 hym;obtain⟨w,hw,q,hf,h0,rfl⟩:=SM hy y y1;obtain⟨b1,b2⟩:=S0 h0 y2;rw[b2];obtain⟨qm,qf⟩:=KW hf;have hwr:=Jw h.okA (hl w hw);have hz:=(zhg (VH (h.rules r hr)).2.1).1 k;have fL:r≠q:=λe=>by subst e;omega
 exact zia (z168 h.nR r hr q qm fL) (h.Vl hr (by omega))
theorem zzs(h:nm m a b){l ys:List eD}(hr:rM l)(hl:∀v∈l,eP a v.1=true)(hy:sC m b l= .inr ys):rE (rD m.2.1++jr ys):=
 cG.2 ⟨acv h,z173 h hr hy,acT h hl hy⟩
theorem zzt(h:nm m a b){l ys:List eD}(hy:sC m b l= .inr ys):∀v∈rD m.2.1++jr ys,eP b v.1=true:=by
 intro v hv;rcases aR.1 hv with hv|hv
 ·obtain⟨r,hr,k,rfl⟩:=VC.1 hv;exact h.to hr (by omega)
 ·obtain⟨y1,y2⟩:=KZ.1 hv;obtain⟨w,hw,q,hf,h0,rfl⟩:=SM hy v y1;obtain⟨b1,b2⟩:=S0 h0 y2;rw[b2];exact h.to (KW hf).1 b1
end
def vS(vs:List eD):Nat->Nat->List eD
 |0,_=>[]
 |n+1,k=>(vs.filter λv=>decide (v.1=(k:Int)))++vS vs n (k+1)
theorem Vz{vs:List eD}{v:eD}:∀{n k:Nat},v∈vS vs n k↔v∈vs/\(k:Int)<=v.1/\v.1<((k+n:Nat):Int)
 |0,k=>by simp only[vS,List.not_mem_nil,false_iff];omega
 |n+1,k=>by
  rw[vS,aR,bc,decide_eq_true_eq,Vz];constructor
  ·rintro(⟨h1,h2⟩|⟨h1,h2,h3⟩)
   ·exact⟨h1,by omega,by omega⟩
   ·exact⟨h1,by omega,by omega⟩
  ·rintro⟨h1,h2,h3⟩;by_cases e:v.1=(k:Int)
   ·exact .inl ⟨h1,e⟩
   ·exact .inr ⟨h1,by omega,by omega⟩
theorem zd5{vs:List eD}(h:rE (jr vs)):∀(n k:Nat),1<=k->rM (vS vs n k)
 |0,k,_=>hN
 |n+1,k,hk=>by
  rw[vS];refine cG.2 ⟨?_,zd5 h n (k+1) (by omega),λx hx y hy=> ?_⟩
  ·have e:(vs.filter λv=>decide (v.1=(k:Int)))=(jr vs).filter λv=>decide (v.1=(k:Int)):=by
    unfold jr;rw[List.filter_filter];congr 1
    funext v
    by_cases hv:v.1=(k:Int)
    ·rw[zT hv,zF (by omega:¬v.1=0)];rfl
    ·rw[zF hv];rfl
   rw[e];refine jD ?_ (h.filter _);intro x y hx hy fL;have h1:=of_decide_eq_true (bc.1 hx).2;have h2:=of_decide_eq_true (bc.1 hy).2;omega
  ·have h1:=of_decide_eq_true (bc.1 hx).2;have h2:=(Vz.1 hy).2.1;omega
def zui(m:Map)(a b:zf)(x:fX):fX×gS:=
 bif !decide ((lX m a b).1=0) then(lY,(1,-1,())) else bif !decide ((oY a x).1=0) then(lY,oY a x) else bif !(zw m.1 x.1).2 then(lY,(7,0,()))
 else match sC m b x.2.1 with
  | .inl f=>(lY,f)
  | .inr ys=>(((zw m.1 x.1).1,vS (ys++rD m.2.1) 127 2,()),sD)
theorem zi5(l r:List eD):jr (l++r)=jr l++jr r:=by unfold jr;rw[List.filter_append]
theorem zi6{m:Map}{a b:zf}(h:nm m a b):jr (rD m.2.1)=rD m.2.1:=by unfold jr;refine List.filter_eq_self.2 λv hv=> ?_;obtain⟨r,hr,k,rfl⟩:=VC.1 hv;have:=h.Vl hr (by omega);simpa using this
theorem zt7{l r:List eD}(h:rE (l++r)):rE (r++l):=by obtain⟨h1,h2,h3⟩:=cG.1 h;exact cG.2 ⟨h2,h1,λx hx y hy e=>h3 y hy x hx e.symm⟩
theorem agi{m:Map}{a b:zf}(h:nm m a b){l ys:List eD}(hr:rM l)(hl:∀v∈l,eP a v.1=true)(hy:sC m b l= .inr ys)(t:af):
 AE (jr ys) (z31 m.2.1 (t,[],()))=(t,vS (ys++rD m.2.1) 127 2,()):=by
 rw[zai,<-zdo];have Gf:=zzs h hr hl hy;have hs:jr (ys++rD m.2.1)=jr ys++rD m.2.1:=by rw[zi5,zi6 h]
 refine amQ.2 ⟨znt _ _,?_⟩;refine RX (zu9 _ hN) (zd5 (by rw[hs];exact zt7 Gf) 127 2 (by omega)) λv=> ?_;rw[zu8 _ _ Gf (λ_ _ w hw=>by cases hw) v,Vz];constructor
 ·rintro(hv|hv)
  ·cases hv
  ·have hb:=Jw h.okB (zzt h hy v hv);refine⟨?_,by omega,by omega⟩;rcases aR.1 hv with hv|hv
   ·exact dT _ hv
   ·exact dm _ (KZ.1 hv).1
 ·rintro⟨hv,h1,h2⟩;right;rcases aR.1 hv with hv|hv
  ·exact dT _ (KZ.2 ⟨hv,by omega⟩)
  ·exact dm _ hv
theorem zuj(m:Map)(a b:zf)(x:fX):Af m a b x=zui m a b x:=by
 unfold Af zui;by_cases h1:(lX m a b).1=0
 ·rw[zT h1,ai,zD,zD];by_cases h2:(oY a x).1=0
  ·rw[zT h2,ai,zD,zD];cases(zw m.1 x.1).2 with
   |false=>rfl
   |true=>
    rw[ai,zD,zD];obtain⟨g1,g2,g3⟩:=Js.1 (Tf.1 h2).qZ;rcases zal m b x.2.1 (z31 m.2.1 ((zw m.1 x.1).1,[],())) with⟨f,o,e1,e2⟩|⟨ys,e1,e2⟩
    ·rw[e1,e2]
    ·rw[e1,e2];dsimp only;rw[agi (zpn.1 h1) g2 (λv hv=>(g1 v hv).1) e2]
  ·rw[zF h2];rfl
 ·rw[zF h1];rfl
end eL

namespace eL
open Go.IntKind renaming wrap->zW,i64->zI,u8->zU
open Go Go.Ref
abbrev OI:Ty:= .pair (.int .i64) (.pair (.int .i64) (.pair (.int .i64) (.pair (.int .i64) (.pair (.int .i64) .unit))))
abbrev am2:Ty:= .pair (.int .i64) (.pair (.int .i64) (.pair (.sl 0 OI) .unit))
abbrev GU:Ty:= .pair .str (.pair .str .unit)
abbrev OH:Ty:= .pair (.int .i64) (.pair (.int .i64) (.pair (.int .i64) (.pair .str (.pair (.sl 0 GU) .unit))))
abbrev OG:Ty:= .pair (.sl 0 GU) (.pair (.sl 0 OH) .unit)
def small(n:Nat)(l:List fe):Bool:=l.all λp=> !decide ((n:Int)<(p.1.size:Int))&& !decide ((n:Int)<(p.2.1.size:Int))
theorem QS{n:Nat}{l:List fe}(hn:n<=1200)(h:small n l=true):∀p∈l,p.1.size<=1099511627776/\p.2.1.size<=1099511627776:=λp hp=>by have:=aY.1 h p hp;simp only[ar,Bool.not_eq_true',decide_eq_false_iff_not] at this;omega
def grR(t:Bool):ae (Sum Bool Unit):=some (bif t then .inr () else .inl true)
theorem Sw:∀(l:List fe) (i:Int),fa (λi (p:fe) (s:Unit) K=>bif(decide (1200<((p.1).size:Int))) then some (Sum.inl true) else(bif(decide (1200<((p.2.1).size:Int))) then some (Sum.inl true) else K s)) (λ_=>some (Sum.inr ())) l i ()=grR (small 1200 l)
 | [],i=>rfl
 |p::r,i=>by
  simp only[fa,small,iG];by_cases h1:(1200:Int)<(p.1.size:Int)
  ·rw[zT h1,zT (show((1200:Nat):Int)<(p.1.size:Int) from h1)];rfl
  ·rw[zF h1,zF (show¬((1200:Nat):Int)<(p.1.size:Int) from h1)];by_cases h2:(1200:Int)<(p.2.1.size:Int)
   ·rw[zT h2,zT (show((1200:Nat):Int)<(p.2.1.size:Int) from h2)];rfl
   ·rw[zF h2,zF (show¬((1200:Nat):Int)<(p.2.1.size:Int) from h2)];exact Sw r (i+1)
def E2(r:dN):Bool:=decide ((1200:Int)<(r.2.2.2.1.size:Int))||(decide ((300:Int)<(r.2.2.2.2.1.length:Int))|| !small 1200 r.2.2.2.2.1)
theorem adq(r:dN)(h:r.2.2.2.2.1.length<=maxLen):wh r=some (E2 r):=by
 unfold wh WB E2;cases decide ((1200:Int)<(r.2.2.2.1.size:Int)) with
 |true=>rfl
 |false=>
  cases decide ((300:Int)<(r.2.2.2.2.1.length:Int)) with
  |true=>rfl
  |false=>
   simp only[zD,dx];have:=yh qI r.2.2.2.2.1 h (λi (p:fe) (s:Unit) K=>bif(decide (1200<((p.1).size:Int))) then some (Sum.inl true) else(bif(decide (1200<((p.2.1).size:Int))) then some (Sum.inl true) else K s)) (λ_=>some (Sum.inr ()))
    (λk i s=>ES k i r) (λk i s h0 h1=>by
      show ES (k+1) i r=_
      conv=>lhs;unfold ES Tn
      rw[zT h1,zC,zm h0 h1,zm h0 h1];rfl) (λk s=>by
      show ES (k+1) r.2.2.2.2.1.length r=_
      conv=>lhs;unfold ES Tn
      rw[zF (by omega),zD]) ()
   rw[this,Sw];unfold grR;cases small 1200 r.2.2.2.2.1<;>rfl
theorem agO{r:dN}(h:E2 r=false):nF r:=by unfold E2 at h;simp only[cF,decide_eq_false_iff_not,Bool.not_eq_false'] at h;obtain⟨h1,h2,h3⟩:=h;exact⟨by omega,by omega,QS (by omega) h3⟩
theorem Sv(m:Map):∀(l:List fe) (i:Int),fa (λi (p:fe) (s:Unit) K=>bif(decide (100<((p.1).size:Int))) then some (Sum.inl (true,m)) else(bif(decide (100<((p.2.1).size:Int))) then some (Sum.inl (true,m)) else K s)) (λ_=>some (Sum.inr m)) l i ()=some (bif small 100 l then .inr m else .inl (true,m))
 | [],i=>rfl
 |p::r,i=>by
  simp only[fa,small,iG];by_cases h1:(100:Int)<(p.1.size:Int)
  ·rw[zT h1,zT (show((100:Nat):Int)<(p.1.size:Int) from h1)];rfl
  ·rw[zF h1,zF (show¬((100:Nat):Int)<(p.1.size:Int) from h1)];by_cases h2:(100:Int)<(p.2.1.size:Int)
   ·rw[zT h2,zT (show((100:Nat):Int)<(p.2.1.size:Int) from h2)];rfl
   ·rw[zF h2,zF (show¬((100:Nat):Int)<(p.2.1.size:Int) from h2)];exact Sv m r (i+1)
theorem Su:∀(l:List dN) (i:Int),(∀r∈l,r.2.2.2.2.1.length<=maxLen)->fa (λi (x:dN) (s:Unit) K=>((wh x).bind λr1=>(bif r1 then some (Sum.inl true) else K s))) (λ_=>some (Sum.inr ())) l i ()=some (bif l.any E2 then Sum.inl true else Sum.inr ())
 | [],i,_=>rfl
 |r::l,i,h=>by
  simp only[fa,List.any_cons];rw[adq r (h r aW),ap];cases E2 r with
  |true=>rfl
  |false=>exact Su l (i+1) λq hq=>h q (aG _ hq)
def Ho(m:Map):Bool:=decide ((300:Int)<(m.1.length:Int))||(decide ((300:Int)<(m.2.1.length:Int))||(!small 100 m.1||m.2.1.any E2))
theorem adr(m:Map)(h1:m.1.length<=maxLen)(h2:m.2.1.length<=maxLen)(h3:∀r∈m.2.1,r.2.2.2.2.1.length<=maxLen):tP m=some (Ho m):=by
 unfold tP WL Ho;cases decide ((300:Int)<(m.1.length:Int)) with
 |true=>rfl
 |false=>
  cases decide ((300:Int)<(m.2.1.length:Int)) with
  |true=>rfl
  |false=>
   simp only[zD,dx];have e1:=yh qI m.1 h1 (λi (p:fe) (s:Unit) K=>bif(decide (100<((p.1).size:Int))) then some (Sum.inl (true,m)) else(bif(decide (100<((p.2.1).size:Int))) then some (Sum.inl (true,m)) else K s)) (λ_=>some (Sum.inr m))
    (λk i s=>ET k i m) (λk i s h0 h1=>by
      show ET (k+1) i m=_
      conv=>lhs;unfold ET Tt
      rw[zT h1,zC,zm h0 h1,zm h0 h1];rfl) (λk s=>by
      show ET (k+1) m.1.length m=_
      conv=>lhs;unfold ET Tt
      rw[zF (by omega),zD]) ()
   rw[e1,Sv];cases small 100 m.1 with
   |false=>rfl
   |true=>
    simp only[zC,ap,cc,ai,dx];unfold WM;have e2:=jz p5 m.2.1 h2 (λi (x:dN) (s:Unit) K=>((wh x).bind λr1=>(bif r1 then some (Sum.inl true) else K s))) (λ_=>some (Sum.inr ()))
     (λk i s=>Ts k i m) (λk i s=>rfl) ()
    dsimp only;rw[e2,Su _ _ h3];cases m.2.1.any E2<;>rfl
theorem Pg{m:Map}(h:Ho m=false):mL m:=by
 unfold Ho at h;simp only[cF,decide_eq_false_iff_not,Bool.not_eq_false'] at h;obtain⟨h1,h2,h3,h4⟩:=h;refine⟨⟨by omega,QS (by omega) h3⟩,by omega,λr hr=>agO ?_⟩;cases hg:E2 r with
 |false=>rfl
 |true=>rw[ke.2 ⟨r,hr,hg⟩] at h4;cases h4
theorem z171{m:Map}(h:Wf OG m):tP m=some (Ho m):=
 adr m h.1.1 h.2.1.1 λr hr=>(h.2.1.2 r hr).2.2.2.2.1.1
end eL

