/- No condition. -/
import Derived.Test.YtodeabafemckjaaGreatDoorK2
import Derived.Laws.RangeString
set_option linter.unusedVariables false
set_option linter.unusedSimpArgs false
set_option maxRecDepth 100000
open BitVec renaming toNat_and->ko
open Bool renaming not_true->ai,and_eq_true->ap,not_false->aY,or_eq_false_iff->cR,true_and->dW,and_true->eU,and_false->eL,or_false->j4
open ByteArray renaming size_extract->b9,size_append->cq,append_assoc->df,data_append->fM,ext->j5
open Go.IntKind renaming bits->gY,signed->jC,wrap->kF
open Go.Lib renaming repeatL->jA
open Go.Utf8 renaming decode->dw
open Int renaming toNat_natCast->ar,fdiv->aX,toNat_of_nonneg->cD,le_refl->c9,tmod->cB,reduceEq->dG,tdiv->dc,tmod_eq_emod_of_nonneg->dS,tdiv_eq_ediv_of_nonneg->js,eq_ofNat_of_zero_le->kc,add_zero->kG
open List renaming length->ag,getD->ah,getD_eq_getElem?_getD->al,getElem?_eq_getElem->av,replicate->aw,length_cons->aB,mem_cons_of_mem->aE,length_append->aF,mem_cons->aD,drop_eq_nil_of_le->aK,mem_cons_self->aM,drop_eq_getElem_cons->aO,drop_zero->aN,take->aJ,append_assoc->aQ,all_eq_true->aR,length_take->aU,mem_filter->bf,pairwise_cons->bk,map_cons->bd,eq_nil_of_length_eq_zero->bp,mem_map->bm,nil_append->bD,drop->bu,append_nil->bM,length_drop->bF,take_length->cF,getElem_mem->b6,length_map->cf,take_of_length_le->bV,foldl_cons->cm,length_singleton->cr,mem_of_find?_eq_some->cu,map_append->cg,set->b8,length_nil->cM,take_zero->cZ,drop_drop->dL,find?_cons->dn,length_replicate->fN,mem_of_mem_drop->eX,foldl_append->dM,map_congr_left->dT,replicate_succ->fh,all_cons->kd,all_append->jj,find?_some->kV,getElem_take->jU,dropLast_concat_getLast->iO,take_add_one->jX,getD_cons_succ->lF,drop_succ_cons->lD
open Nat renaming le_refl->aZ,min_eq_left->bN,zero_le->bS,pow_le_pow_right->cS,testBit_lt_two_pow->dx,lt_of_lt_of_le->fC,lt_or_ge->eB,testBit_two_pow->dU,testBit_eq_decide_div_mod_eq->eR,testBit_and->jm,lt_of_le_of_lt->gQ,and_two_pow_sub_one_eq_mod->ij,eq_of_testBit_eq->iW,and_le_left->jl,two_pow_add_eq_or_of_lt->jf,pow_succ->ju,div_div_eq_div_mul->kz,two_pow_pos->kY,ble_eq_true_of_le->kP
open Option renaming bind_some->au
open Option.some renaming inj->cE
open Sum renaming elim->aI,elim_inr->cj,elim_inl->mu
open UInt8 renaming toNat_ofNat_of_lt'->jO
namespace eD
open Go.IntKind renaming wrap->zW,i64->zI,u8->zU
open Go Go.Ref
def ztx{R:Type}(a:Bool->ae R):ae R:=
 (Be (0:Int)).bind λr1=>(vI r1 (bs [48,56,48,48],([(11,bs [48,48,48,48,48,49],())]:List eQ),())).bind λr2=>(xn r1 r2.1).bind λr3=>Dq.bind λr4=>(xk r4 0 r2.1).bind λr5=>Dq.bind λr6=>bif r2.1.size+(bs [48]).size<=9223372036854775807 then(xk r6 0 (r2.1++bs [48])).bind λr7=>bif r2.1=bs [48,56,48,48,48,48,50,48,48,48,48,48,48,48,48,48,48,48,48,48,48,48,48,48,48,49] then bif decide (r2.2.1=0)&&(decide (r2.2.2.1=0)&&true) then bif((ag r3.1.2.1):Int)=1 then bif decide (r3.2.1=0)&&(decide (r3.2.2.1=0)&&true) then bif r5.1=1 then bif(r5.2.size:Int)=15 then bif r7.1=2 then a (decide (r7.2=bs [48,56,49,48,48,48,50,48,48,48,48,48,48,50,48,48,48,48,48,48,48,48,48,48,48,49,51,48])) else a false else a false else a false else a false else a false else a false else a false else none
def zB:ae Bool:=
 ztx (λa0=>some a0)
def Wt{R:Type}(a:(List af))(b:Int)(c:Bool->ae R)(d:Int->af->af->(List af)->Int->Int->Int->(List af)->Int->Int->(cU×(ae bP×ae bP)×Int)->(cU×(ae bP×ae bP)×Int)->ae R):ae R:=
 zB.bind λr1=>bif !r1 then zB.bind λr2=>c r2 else(Du a (2500:Int)).bind λr3=>bif r3 then zB.bind λr4=>c r4 else BB.bind λr5=>(H2 r5).bind λr6=>aI (λ(wr6:Int)=>(BC r5).bind λr7=>(H2 r7).bind λr8=>aI (λ(wr8:Int)=>c false) (λ(wr8:(Int×(cU×(ae bP×ae bP)×Int)))=>c false) r8) (λ(wr6:(Int×(cU×(ae bP×ae bP)×Int)))=>(BC r5).bind λr9=>(H2 r9).bind λqZ=>aI (λ(IZ:Int)=>c false) (λ(IZ:(Int×(cU×(ae bP×ae bP)×Int)))=>(Bh a).bind λtn=>(Bi r5.2.1 tn).bind λuz=>d b (bs []) (bs []) uz.1 0 wr6.1 IZ.1 a ((ag a):Int) 0 wr6.2 IZ.2) qZ) r6
def Th{R:Type}(a:Int)(b c:af)(d:(List af))(e f g:Int)(h:(List af))(i j:Int)(l m:(cU×(ae bP×ae bP)×Int))(n:Int->af->af->(List af)->Int->Int->Int->(List af)->Int->Int->nA->Int->Int->(cU×(ae bP×ae bP)×Int)->(cU×(ae bP×ae bP)×Int)->ae R)(o:Int->af->af->Int->(cU×(ae bP×ae bP)×Int)->ae R):ae R:=
 bif j<i then zd j (ag h) ((Ky l (0,ah h j.toNat (bs []),())).bind λsF=>n a b c d e f g h i j sF.1 ((ag sF.1):Int) 0 sF.2 m) else o a b c g m
def Wu{R:Type}(a:Int)(b c:af)(d:Int)(e:(cU×(ae bP×ae bP)×Int))(f:af->af->Int->af->Int->(cU×(ae bP×ae bP)×Int)->ae R):ae R:=
 f b c (zW zI (1+zW zI (cB (IntKind.u64.wrap a) 7))) (bs []) d e
def ztu{R:Type}(a:Int)(b c:af)(d:(List af))(e f g:Int)(h:(List af))(i j:Int)(l:nA)(m n:Int)(o p:(cU×(ae bP×ae bP)×Int))(q:Int->af->af->(List af)->Int->Int->Int->(List af)->Int->Int->nA->Int->Int->(cU×(ae bP×ae bP)×Int)->(cU×(ae bP×ae bP)×Int)->ae R)(s:Int->af->af->(List af)->Int->Int->Int->(List af)->Int->Int->(cU×(ae bP×ae bP)×Int)->(cU×(ae bP×ae bP)×Int)->ae R):ae R:=
 bif n<m then zd n (ag l) (bif(ah l n.toNat (0,0,bs [],0,())).2.1=1 then bif e<((ag d):Int) then bif b.size+((ah l n.toNat (0,0,bs [],0,())).2.2.1).size<=9223372036854775807 then zd e (ag d) ((xg (ah d e.toNat (bs []))).bind λvd=>bif c.size+vd.size<=9223372036854775807 then q a (b++(ah l n.toNat (0,0,bs [],0,())).2.2.1) (c++vd) d (zW zI (e+1)) f g h i j l m (zW zI (n+1)) o p else none) else none else q a b c d (zW zI (e+1)) f g h i j l m (zW zI (n+1)) o p else q a b c d (zW zI (e+1)) f g h i j l m (zW zI (n+1)) o p) else s a b c d e f g h i j o p
def Lm{R:Type}(a b:af)(c:Int)(d:af)(e:Int)(f:(cU×(ae bP×ae bP)×Int))(g:af->af->Int->af->Int->Int->nA->Int->Int->(cU×(ae bP×ae bP)×Int)->ae R)(h:af->af->ae R):ae R:=
 bif !decide (a=bs []) then bif 0<=(if(a.size:Int)<c then(a.size:Int) else c) then bif(if(a.size:Int)<c then(a.size:Int) else c)<=(a.size:Int) then(Ky f (0,a.extract 0 (if(a.size:Int)<c then(a.size:Int) else c).toNat,())).bind λve=>g a b c d (if(a.size:Int)<c then(a.size:Int) else c) e ve.1 ((ag ve.1):Int) 0 ve.2 else none else none else h b d
def Wv{R:Type}(a:Int)(b c:af)(d:(List af))(e f g:Int)(h:(List af))(i j:Int)(l m:(cU×(ae bP×ae bP)×Int))(n:Int->af->af->(List af)->Int->Int->Int->(List af)->Int->Int->(cU×(ae bP×ae bP)×Int)->(cU×(ae bP×ae bP)×Int)->ae R):ae R:=
 n a b c d e f g h i (zW zI (j+1)) l m
def Ww{R:Type}(a b:af)(c:Bool->ae R):ae R:=
 c (decide (b=a))
def ztv{R:Type}(a b:af)(c:Int)(d:af)(e f:Int)(g:nA)(h i:Int)(j:(cU×(ae bP×ae bP)×Int))(l:Bool->af->af->Int->af->Int->Int->(cU×(ae bP×ae bP)×Int)->ae R)(m:af->af->Int->af->Int->Int->nA->Int->Int->(cU×(ae bP×ae bP)×Int)->ae R)(n:af->af->Int->af->Int->Int->(cU×(ae bP×ae bP)×Int)->ae R):ae R:=
 bif i<h then zd i (ag g) (bif !decide ((ah g i.toNat (0,0,bs [],0,())).2.1=1) then l false a b c d e f j else bif !decide ((ah g i.toNat (0,0,bs [],0,())).1=1) then l false a b c d e f j else bif d.size+((ah g i.toNat (0,0,bs [],0,())).2.2.1).size<=9223372036854775807 then m a b c (d++(ah g i.toNat (0,0,bs [],0,())).2.2.1) e f g h (zW zI (i+1)) j else none) else n a b c d e f j
def ztw{R:Type}(a:Bool)(b c:af)(d:Int)(e:af)(f g:Int)(h:(cU×(ae bP×ae bP)×Int))(i:Bool->af->af->ae R):ae R:=
 i a c e
def zip{R:Type}(a b:af)(c:Int)(d:af)(e f:Int)(g:(cU×(ae bP×ae bP)×Int))(h:af->af->Int->af->Int->(cU×(ae bP×ae bP)×Int)->ae R):ae R:=
 bif 0<=e then bif e<=(a.size:Int) then h (a.extract e.toNat a.size) b c d f g else none else none
def zn7{R:Type}(a:Bool)(b c:af)(d:Bool->ae R):ae R:=
 d a
def Te:Nat->Int->af->af->(List af)->Int->Int->Int->(List af)->Int->Int->nA->Int->Int->(cU×(ae bP×ae bP)×Int)->(cU×(ae bP×ae bP)×Int)->ae (Int×af×af×(List af)×Int×Int×Int×(List af)×Int×Int×(cU×(ae bP×ae bP)×Int)×(cU×(ae bP×ae bP)×Int))
 |0,_,_,_,_,_,_,_,_,_,_,_,_,_,_,_=>none
 |k+1,v0,v1,v2,v3,v4,v5,v6,v7,v8,v9,v10,v11,v12,v13,v14=>ztu v0 v1 v2 v3 v4 v5 v6 v7 v8 v9 v10 v11 v12 v13 v14 (λa0 a1 a2 a3 a4 a5 a6 a7 a8 a9 uO uP a12 Ej a14=>Te k a0 a1 a2 a3 a4 a5 a6 a7 a8 a9 uO uP a12 Ej a14) (λa0 a1 a2 a3 a4 a5 a6 a7 a8 a9 uO uP=>some (a0,a1,a2,a3,a4,a5,a6,a7,a8,a9,uO,uP))
def J8:Nat->Int->af->af->(List af)->Int->Int->Int->(List af)->Int->Int->(cU×(ae bP×ae bP)×Int)->(cU×(ae bP×ae bP)×Int)->ae (Int×af×af×Int×(cU×(ae bP×ae bP)×Int))
 |0,_,_,_,_,_,_,_,_,_,_,_,_=>none
 |k+1,v0,v1,v2,v3,v4,v5,v6,v7,v8,v9,v10,v11=>Th v0 v1 v2 v3 v4 v5 v6 v7 v8 v9 v10 v11 (λa0 a1 a2 a3 a4 a5 a6 a7 a8 a9 uO uP a12 Ej a14=>(Te bG a0 a1 a2 a3 a4 a5 a6 a7 a8 a9 uO uP a12 Ej a14).bind λe=>Wv e.1 e.2.1 e.2.2.1 e.2.2.2.1 e.2.2.2.2.1 e.2.2.2.2.2.1 e.2.2.2.2.2.2.1 e.2.2.2.2.2.2.2.1 e.2.2.2.2.2.2.2.2.1 e.2.2.2.2.2.2.2.2.2.1 e.2.2.2.2.2.2.2.2.2.2.1 e.2.2.2.2.2.2.2.2.2.2.2 (λa0 a1 a2 a3 a4 a5 a6 a7 a8 a9 uO uP=>J8 k a0 a1 a2 a3 a4 a5 a6 a7 a8 a9 uO uP)) (λa0 a1 a2 a3 a4=>some (a0,a1,a2,a3,a4))
def Tf:Nat->af->af->Int->af->Int->Int->nA->Int->Int->(cU×(ae bP×ae bP)×Int)->ae (Sum (Bool×af×af×Int×af×Int×Int×(cU×(ae bP×ae bP)×Int)) (af×af×Int×af×Int×Int×(cU×(ae bP×ae bP)×Int)))
 |0,_,_,_,_,_,_,_,_,_,_=>none
 |k+1,v0,v1,v2,v3,v4,v5,v6,v7,v8,v9=>ztv v0 v1 v2 v3 v4 v5 v6 v7 v8 v9 (λa0 a1 a2 a3 a4 a5 a6 a7=>some (.inl (a0,a1,a2,a3,a4,a5,a6,a7))) (λa0 a1 a2 a3 a4 a5 a6 a7 a8 a9=>Tf k a0 a1 a2 a3 a4 a5 a6 a7 a8 a9) (λa0 a1 a2 a3 a4 a5 a6=>some (.inr (a0,a1,a2,a3,a4,a5,a6)))
def Hv:Nat->af->af->Int->af->Int->(cU×(ae bP×ae bP)×Int)->ae (Sum BU (Bool×af×af))
 |0,_,_,_,_,_,_=>none
 |k+1,v0,v1,v2,v3,v4,v5=>Lm v0 v1 v2 v3 v4 v5 (λa0 a1 a2 a3 a4 a5 a6 a7 a8 a9=>(Tf bG a0 a1 a2 a3 a4 a5 a6 a7 a8 a9).bind λe=>aI (λ(we:(Bool×af×af×Int×af×Int×Int×(cU×(ae bP×ae bP)×Int)))=>ztw we.1 we.2.1 we.2.2.1 we.2.2.2.1 we.2.2.2.2.1 we.2.2.2.2.2.1 we.2.2.2.2.2.2.1 we.2.2.2.2.2.2.2 (λa0 a1 a2=>some (.inr (a0,a1,a2)))) (λ(we:(af×af×Int×af×Int×Int×(cU×(ae bP×ae bP)×Int)))=>zip we.1 we.2.1 we.2.2.1 we.2.2.2.1 we.2.2.2.2.1 we.2.2.2.2.2.1 we.2.2.2.2.2.2 (λa0 a1 a2 a3 a4 a5=>Hv k a0 a1 a2 a3 a4 a5)) e) (λa0 a1=>some (.inl (a0,a1)))
def Bj(a:(List af))(b:Int):ae Bool:=
 Wt a b (λa0=>some a0) (λa0 a1 a2 a3 a4 a5 a6 a7 a8 a9 uO uP=>(J8 bG a0 a1 a2 a3 a4 a5 a6 a7 a8 a9 uO uP).bind λe=>Wu e.1 e.2.1 e.2.2.1 e.2.2.2.1 e.2.2.2.2 (λa0 a1 a2 a3 a4 a5=>(Hv bG a0 a1 a2 a3 a4 a5).bind λe=>aI (λ(we:BU)=>Ww we.1 we.2 (λa0=>some a0)) (λ(we:(Bool×af×af))=>zn7 we.1 we.2.1 we.2.2 (λa0=>some a0)) e))
end eD

namespace eD
open Go.IntKind renaming wrap->zW,i64->zI,u8->zU
theorem zT{p:Prop}[Decidable p](h:p):decide p=true:=_root_.decide_eq_true h
theorem zF{p:Prop}[Decidable p](h:¬p):decide p=false:=_root_.decide_eq_false h
theorem zC{α:Type}{a b:α}:(bif true then a else b)=a:=rfl
theorem zD{α:Type}{a b:α}:(bif false then a else b)=b:=rfl
open Go Go.Ref
theorem zv:bG=18446744073709551616:=by unfold bG;rfl
theorem zh:maxLen=9223372036854775807:=rfl
theorem zj{x:Int}(h1: -9223372036854775808<=x)(h2:x<=9223372036854775807):zW zI x=x:=JK h1 h2
theorem Fs{n:Nat}(h:n<=9223372036854775807):zW zI (n:Int)=n:=JK (by omega) (by omega)
theorem zu{j:Nat}(h:j<9223372036854775807):zW zI ((j:Int)+1)=((j+1:Nat):Int):=by rw[JK (by omega) (by omega)];rfl
theorem zxo(x:Int):IntKind.u64.wrap x=x % 18446744073709551616:=by simp [kF,jC,gY]
theorem Uq(x:Int):zW zU x=x % 256:=by simp [kF,jC,gY]
theorem ant{x:Int}(h1:0<=x)(h2:x<18446744073709551616):IntKind.u64.wrap x=x:=by rw[zxo];omega
theorem CO{x:Int}(h1:0<=x)(h2:x<256):zW zU x=x:=by rw[Uq];omega
theorem zi{R:Type}{j n:Nat}{x:ae R}(h:j<n):zd (j:Int) n x=x:=ag4 h
theorem zp{R:Type}{i:Int}{n:Nat}{x:ae R}(h0:0<=i)(h:i<n):zd i n x=x:=by unfold zd;rw[zT h0,zT h];rfl
theorem alr{R:Type}{p:Prop}[Decidable p](x y:R):(bif decide p then x else y)=if p then x else y:=by by_cases h:p<;>simp [h]
def bl(s:af):List Int:=s.data.toList.map λb=>(b.toNat:Int)
theorem A7{a b:af}(h:bl a=bl b):a=b:=by apply j5;apply Array.ext';unfold bl at h;have:Function.Injective (λb:UInt8=>(b.toNat:Int)):=λx y G0=>UInt8.toNat_inj.1 (Int.ofNat.inj G0);exact(List.map_inj_right (λx y h=>this h)).1 h
theorem Nk{a b:af}:a=b↔bl a=bl b:=⟨λh=>by rw[h],A7⟩
theorem zg(s:af):(bl s).length=s.size:=by unfold bl;rw[cf];rfl
theorem tR(a b:af):bl (a++b)=bl a++bl b:=by simp [bl,fM]
theorem xU(s:af)(i j:Nat):bl (s.extract i j)=((bl s).take j).drop i:=by unfold bl;rw[ByteArray.data_extract,Array.toList_extract,List.extract_eq_drop_take',List.map_drop,List.map_take]
theorem uF(s:af)(i:Nat):ze s i=(bl s).getD i 0:=by
 unfold ze bl;split
 ·rename_i h;have h':i<s.data.toList.length:=h;rw[al,List.getElem?_map,av h'];rfl
 ·rename_i h;have h':s.data.toList.length<=i:=Nat.le_of_not_lt h;rw[al,List.getElem?_eq_none (by simpa using h')];rfl
def zl(n:Int):Prop:=0<=n/\n<256
theorem su{s:af}{x:Int}(h:x∈bl s):zl x:=by unfold bl at h;obtain⟨b,_,rfl⟩:=bm.1 h;have:=b.toNat_lt;unfold zl;omega
theorem wO{xs:List Int}(h:∀x∈xs,zl x):bl (strOf xs)=xs:=by
 simp only[bl,strOf,List.map_map]
 conv=>rhs;rw[<-List.map_id xs]
 apply dT;intro x hx;have:=h x hx;unfold zl at this;simp only[Function.comp,id];rw[jO (by show x.toNat<256;omega)];omega
theorem CU(s:af):strOf (bl s)=s:=A7 (wO λx hx=>su hx)
theorem Gj{l:List Nat}(h:∀x∈l,x<256):bl (bs l)=l.map (λn:Nat=>(n:Int)):=by simp only[bl,bs,List.map_map];apply dT;intro x hx;have:=h x hx;simp only[Function.comp];rw[jO (by show x<256;omega)]
theorem zo0:bl (bs [])=[]:=rfl
theorem zct{s:af}:s=bs []↔bl s=[]:=by rw[Nk,zo0]
theorem wM(xs:List Int):(strOf xs).size=xs.length:=by rw[<-zg];unfold bl strOf;simp
section
variable {α σ ρ:Type}
end
end eD
namespace eD
open Go.IntKind renaming wrap->zW,i64->zI,u8->zU
open Go Go.Ref
section
variable {α σ ρ:Type}
def fD(g:Int->α->σ->(σ->ae ρ)->ae ρ)(fin:σ->ae ρ):List α->Int->σ->ae ρ
 | [],_,s=>fin s
 |x::r,i,s=>g i x s λs'=>fD g fin r (i+1) s'
theorem Sj(d:α)(xs:List α)(hlen:xs.length<=9223372036854775807)(g:Int->α->σ->(σ->ae ρ)->ae ρ)(fin:σ->ae ρ)(L:Nat->Int->σ->ae ρ)
 (step:∀k (i:Int) s,L (k+1) i s=bif decide (i<(xs.length:Int)) then zd i xs.length (g i (xs.getD i.toNat d) s λs'=>L k (zW zI (i+1)) s') else fin s):
 ∀(m j k:Nat) (s:σ),j+m=xs.length->m<k->L k j s=fD g fin (xs.drop j) j s
 |0,j,k,s,hj,hk=>by
  obtain⟨k,rfl⟩:∃k',k=k'+1:=⟨k-1,by omega⟩
  rw[step,zF (by omega),aK (by omega)];rfl
 |m+1,j,k,s,hj,hk=>by
  obtain⟨k,rfl⟩:∃k',k=k'+1:=⟨k-1,by omega⟩
  have bR:j<xs.length:=by omega
  rw[step,zT (by omega),zC,zi bR,aO bR,fD];have hx:xs.getD ((j:Int)).toNat d=xs[j]:=by rw[ar,al,av bR];rfl
  rw[hx];congr 1
  funext s'
  rw[zu (by omega),Sj d xs hlen g fin L step m (j+1) k s' (by omega) (by omega)];rfl
theorem jJ(d:α)(xs:List α)(hlen:xs.length<=maxLen)(g:Int->α->σ->(σ->ae ρ)->ae ρ)(fin:σ->ae ρ)(L:Nat->Int->σ->ae ρ)
 (step:∀k (i:Int) s,L (k+1) i s=bif decide (i<(xs.length:Int)) then zd i xs.length (g i (xs.getD i.toNat d) s λs'=>L k (zW zI (i+1)) s') else fin s) (s:σ):L bG 0 s=fD g fin xs 0 s:=by
 rw[zh] at hlen;have:=Sj d xs hlen g fin L step xs.length 0 bG s (by omega) (by rw[zv];omega);rw[aN] at this;exact this
theorem Sk(d:α)(xs:List α)(hlen:xs.length<=9223372036854775807)(g:Int->α->σ->(σ->ae ρ)->ae ρ)(fin:σ->ae ρ)(L:Nat->Int->σ->ae ρ)
 (step:∀k (i:Int) s,0<=i->i<(xs.length:Int)->L (k+1) i s=g i (xs.getD i.toNat d) s λs'=>L k (zW zI (i+1)) s') (stop:∀k s,L (k+1) (xs.length:Int) s=fin s):
 ∀(m j k:Nat) (s:σ),j+m=xs.length->m<k->L k j s=fD g fin (xs.drop j) j s
 |0,j,k,s,hj,hk=>by
  obtain⟨k,rfl⟩:∃k',k=k'+1:=⟨k-1,by omega⟩
  have:j=xs.length:=by omega
  subst this;rw[stop,List.drop_length];rfl
 |m+1,j,k,s,hj,hk=>by
  obtain⟨k,rfl⟩:∃k',k=k'+1:=⟨k-1,by omega⟩
  have bR:j<xs.length:=by omega
  rw[step k j s (by omega) (by omega),aO bR,fD];have hx:xs.getD ((j:Int)).toNat d=xs[j]:=by rw[ar,al,av bR];rfl
  rw[hx];congr 1
  funext s'
  rw[zu (by omega),Sk d xs hlen g fin L step stop m (j+1) k s' (by omega) (by omega)];rfl
theorem G4(d:α)(xs:List α)(hlen:xs.length<=maxLen)(g:Int->α->σ->(σ->ae ρ)->ae ρ)(fin:σ->ae ρ)(L:Nat->Int->σ->ae ρ)
 (step:∀k (i:Int) s,0<=i->i<(xs.length:Int)->L (k+1) i s=g i (xs.getD i.toNat d) s λs'=>L k (zW zI (i+1)) s') (stop:∀k s,L (k+1) (xs.length:Int) s=fin s) (s:σ):L bG 0 s=fD g fin xs 0 s:=by
 rw[zh] at hlen;have:=Sk d xs hlen g fin L step stop xs.length 0 bG s (by omega) (by rw[zv];omega);rw[aN] at this;exact this
end
end eD

namespace eD
open Go.IntKind renaming wrap->zW,i64->zI,u8->zU
open Go Go.Ref
theorem Hl(n a:Nat)(h:a<2^n):(BitVec.ofInt n (a:Int)).toNat=a:=by
 rw[BitVec.toNat_ofInt];have h2:((a:Int)% ((2^n:Nat):Int))=((a % 2^n:Nat):Int):=by rfl
 rw[h2,ar,Nat.mod_eq_of_lt h]
theorem LD{a:Nat}(h:a<18446744073709551616):IntKind.u64.wrap (a:Int)=a:=ant (by omega) (by omega)
theorem vP{a b:Nat}(ha:a<18446744073709551616)(hb:b<18446744073709551616):dv .and .u64 a b=((a&&&b:Nat):Int):=by simp only[dv,ko,Hl IntKind.u64.bits a ha,Hl IntKind.u64.bits b hb];exact LD (gQ jl ha)
theorem EZ{a b:Nat}(ha:a<18446744073709551616)(hb:b<18446744073709551616):dv .or .u64 a b=((a|||b:Nat):Int):=by simp only[dv,BitVec.toNat_or,Hl IntKind.u64.bits a ha,Hl IntKind.u64.bits b hb];exact LD (Nat.or_lt_two_pow (n:=64) ha hb)
theorem aio{a b:Nat}(ha:a<18446744073709551616)(hb:b<18446744073709551616):dv .andNot .u64 a b=((a&&&(18446744073709551615-b):Nat):Int):=by simp only[dv,ko,BitVec.toNat_not,Hl IntKind.u64.bits a ha,Hl IntKind.u64.bits b hb];have:2^IntKind.u64.bits-1-b=18446744073709551615-b:=rfl;rw[this];exact LD (gQ jl ha)
theorem alq{a b:Nat}(ha:a<9223372036854775808)(hb:b<9223372036854775808):dv .and .i64 a b=((a&&&b:Nat):Int):=by simp only[dv,ko,Hl IntKind.i64.bits a (Nat.lt_trans ha (by decide)),Hl IntKind.i64.bits b (Nat.lt_trans hb (by decide))];have:=gQ (jl (n:=a) (m:=b)) ha;exact Fs (by omega)
theorem SW(a:Nat)(k:Nat)(hk:k<=64):aX (a:Int) (2^min ((k:Int)).toNat 64)=((a/2^k:Nat):Int):=by rw[Int.fdiv_eq_ediv_of_nonneg _ (Int.pow_nonneg (by decide)),ar,bN hk];rfl
section
variable {c0 c1 c2 c3 c4 c5 c6 c7:Nat}
end
def oQ(x:Nat):Nat:=if x=0 then 0 else x.log2+1
theorem Vi(x:Nat):x<2^oQ x/\(x≠0->2^(oQ x-1)<=x/\1<=oQ x):=by
 unfold oQ;split
 ·simp_all
 ·rename_i h;exact⟨Nat.lt_log2_self,λ_=>⟨by simpa using Nat.log2_self_le h,by omega⟩⟩
theorem z105{x L:Nat}(h1:x<2^L)(h2:L≠0->2^(L-1)<=x):oQ x=L:=by
 obtain⟨g1,g2⟩:=Vi x;by_cases hx:x=0
 ·subst hx;by_cases hL:L=0
  ·rw[hL];rfl
  ·have:=h2 hL;have:=kY (L-1);omega
 ·obtain⟨g3,g4⟩:=g2 hx;rcases Nat.lt_trichotomy (oQ x) L with h|h|h
  ·have:=h2 (by omega);have:2^oQ x<=2^(L-1):=cS (by decide) (by omega);omega
  ·exact h
  ·have:2^L<=2^(oQ x-1):=cS (by decide) (by omega);omega
theorem z94{x k:Nat}(h:2^k<=x):oQ x=oQ (x/2^k)+k:=by
 have hp:=kY k;have hq:x/2^k≠0:=by have:=Nat.div_pos h hp;omega
 obtain⟨g1,g2⟩:=Vi (x/2^k);obtain⟨g3,g4⟩:=g2 hq;apply z105
 ·rw[Nat.pow_add];exact(Nat.div_lt_iff_lt_mul hp).1 g1
 ·intro _;have:oQ (x/2^k)+k-1=(oQ (x/2^k)-1)+k:=by omega
  rw[this,Nat.pow_add];exact(Nat.le_div_iff_mul_le hp).1 g3
def uH:List Nat:=[0,1,2,2,3,3,3,3,4,4,4,4,4,4,4,4,5,5,5,5,5,5,5,5,5,5,5,5,5,5,5,5]++aw 32 6++aw 64 7++aw 128 8
theorem ajK:∀c:Fin 256,uH.getD c.1 0=oQ c.1:=by decide+kernel
def G3(x:Int):ae Int:=
 let t:Int->Int->ae Int:=λn x=>zd (zW zU x) (bs uH).size (some (zW zI (n+zW zI (ze (bs uH) (zW zU x).toNat))));let c:Int->Int->ae Int:=λn x=>bif decide ((256:Int)<=x) then t (zW zI (n+8)) (aX x (2^min ((8:Int)).toNat 64)) else t n x;let b:Int->Int->ae Int:=λn x=>bif decide ((65536:Int)<=x) then c (zW zI (n+16)) (aX x (2^min ((16:Int)).toNat 64)) else c n x
 bif decide ((4294967296:Int)<=x) then b 32 (aX x (2^min ((32:Int)).toNat 64)) else b 0 x
theorem acb(x:Int):Bl x=G3 x:=by kernel_rfl
theorem af7(c:Nat)(h:c<256):ze (bs uH) c=((oQ c:Nat):Int):=by rw[uF,Gj (by decide+kernel),<-ajK ⟨c,h⟩,al,List.getElem?_map,al];cases uH[c]? <;>rfl
theorem zxy{x k:Nat}(h:x<2^k):oQ x<=k:=by
 by_cases hx:x=0
 ·subst hx;simp [oQ]
 ·obtain⟨g3,g4⟩:=(Vi x).2 hx;rcases eB k (oQ x) with h1|h1
  ·have:2^k<=2^(oQ x-1):=cS (by decide) (by omega);omega
  ·exact h1
theorem ahc(x:Nat)(hx:x<18446744073709551616):Bl x=some ((oQ x:Nat):Int):=by
 rw[acb];unfold G3;simp only;have ht:∀(n:Nat) (c:Nat),n<=100->c<256->zd (zW zU (c:Int)) (bs uH).size (some (zW zI ((n:Int)+zW zI (ze (bs uH) (zW zU (c:Int)).toNat))))=some (((n+oQ c:Nat):Int)):=by
  intro n c hn hc;have hl:(bs uH).size=256:=by rw[<-zg,Gj (by decide+kernel)];rfl
  have hb:=zxy (k:=8) hc;rw[CO (by omega) (by omega),hl,zi hc,ar,af7 c hc,Fs (by omega),zj (by omega) (by omega)];rfl
 have f8:∀a:Nat,aX (a:Int) (2^min ((8:Int)).toNat 64)=((a/2^8:Nat):Int):=λa=>SW a 8 (by omega);have f16:∀a:Nat,aX (a:Int) (2^min ((16:Int)).toNat 64)=((a/2^16:Nat):Int):=λa=>SW a 16 (by omega);have f32:∀a:Nat,aX (a:Int) (2^min ((32:Int)).toNat 64)=((a/2^32:Nat):Int):=λa=>SW a 32 (by omega);have hc:∀(n:Nat) (y:Nat),n<=48->y<65536->(bif decide ((256:Int)<=(y:Int)) then zd (zW zU (aX (y:Int) (2^min ((8:Int)).toNat 64))) (bs uH).size (some (zW zI (zW zI ((n:Int)+8)+zW zI (ze (bs uH) (zW zU (aX (y:Int) (2^min ((8:Int)).toNat 64))).toNat)))) else zd (zW zU (y:Int)) (bs uH).size (some (zW zI ((n:Int)+zW zI (ze (bs uH) (zW zU (y:Int)).toNat)))))=some (((n+oQ y:Nat):Int)):=by
  intro n y hn hy;by_cases h:256<=y
  ·rw[zT (by omega),zC,f8,zj (x:=(n:Int)+8) (by omega) (by omega)];have:=ht (n+8) (y/2^8) (by omega) (by omega);rw[show((n:Int)+8)=((n+8:Nat):Int) from rfl,this,z94 (k:=8) h];congr 2;omega
  ·rw[zF (by omega),zD];exact ht n y (by omega) (by omega)
 have hb:∀(n:Nat) (y:Nat),n<=32->y<4294967296->(bif decide ((65536:Int)<=(y:Int)) then(bif decide ((256:Int)<=aX (y:Int) (2^min ((16:Int)).toNat 64)) then zd (zW zU (aX (aX (y:Int) (2^min ((16:Int)).toNat 64)) (2^min ((8:Int)).toNat 64))) (bs uH).size (some (zW zI (zW zI (zW zI ((n:Int)+16)+8)+zW zI (ze (bs uH) (zW zU (aX (aX (y:Int) (2^min ((16:Int)).toNat 64)) (2^min ((8:Int)).toNat 64))).toNat)))) else zd (zW zU (aX (y:Int) (2^min ((16:Int)).toNat 64))) (bs uH).size (some (zW zI (zW zI ((n:Int)+16)+zW zI (ze (bs uH) (zW zU (aX (y:Int) (2^min ((16:Int)).toNat 64))).toNat))))) else
  (bif decide ((256:Int)<=(y:Int)) then zd (zW zU (aX (y:Int) (2^min ((8:Int)).toNat 64))) (bs uH).size (some (zW zI (zW zI ((n:Int)+8)+zW zI (ze (bs uH) (zW zU (aX (y:Int) (2^min ((8:Int)).toNat 64))).toNat)))) else zd (zW zU (y:Int)) (bs uH).size (some (zW zI ((n:Int)+zW zI (ze (bs uH) (zW zU (y:Int)).toNat))))))=some (((n+oQ y:Nat):Int)):=by
  intro n y hn hy;by_cases h:65536<=y
  ·rw[zT (by omega),zC,f16,zj (x:=(n:Int)+16) (by omega) (by omega)];have:=hc (n+16) (y/2^16) (by omega) (by omega);rw[show((n:Int)+16)=((n+16:Nat):Int) from rfl,this,z94 (k:=16) h];congr 2;omega
  ·rw[zF (by omega),zD];exact hc n y (by omega) (by omega)
 by_cases h:4294967296<=x
 ·rw[zT (by omega),zC,f32];have:=hb 32 (x/2^32) (by omega) (by omega);rw[show((32:Nat):Int)=32 from rfl] at this;rw[this,z94 (k:=32) h];congr 2;omega
 ·rw[zF (by omega),zD];have:=hb 0 x (by omega) (by omega);rw[show((0:Nat):Int)=0 from rfl] at this;rw[this];congr 2;omega
theorem z9m(x:Nat)(hx:x<18446744073709551616):vD x=some (((64-oQ x:Nat)):Int):=by unfold vD WE;have:=zxy (k:=64) hx;rw[ahc x hx,zc,zj (by omega) (by omega)];congr 1;omega
end eD

namespace eD
open Go.IntKind renaming wrap->zW,i64->zI,u8->zU
open Go Go.Ref
abbrev Di:=Int×Int×Unit
abbrev lK:Nat:=18446744073709551616
def hG(h l:Nat)(n:Int):Bool:=
 if 1<=n/\n<=64 then h.testBit (64-n).toNat else if 65<=n/\n<=128 then l.testBit (128-n).toNat else false
def re(n:Int):Nat:=if 1<=n/\n<=64 then 2^(64-n).toNat else 0
def rf(n:Int):Nat:=if 65<=n/\n<=128 then 2^(128-n).toNat else 0
theorem zoe{k:Nat}(h:k<64):2^k<lK:=Nat.pow_lt_pow_right (by decide) h
theorem Yq(n:Int):re n<lK:=by
 unfold re;split
 ·exact zoe (by omega)
 ·decide
theorem Yr(n:Int):rf n<lK:=by
 unfold rf;split
 ·exact zoe (by omega)
 ·decide
theorem z182{k:Nat}(h:k<64):IntKind.u64.wrap ((1:Int)*2^min k 64)=((2^k:Nat):Int):=by
 rw[bN (by omega),Int.one_mul];have:=zoe h;have e:((2:Int)^k)=((2^k:Nat):Int):=by simp
 rw[e];exact LD this
theorem Sf(n:Int):Kx n=some ((re n:Int),(rf n:Int),()):=by
 unfold Kx ZG re rf;by_cases h1:n<1
 ·rw[zT h1,if_neg (by omega),if_neg (by omega)];rfl
 rw[zF h1,zD];by_cases h2:128<n
 ·rw[zT h2,if_neg (by omega),if_neg (by omega)];rfl
 rw[zF h2,zD];by_cases h3:n<=64
 ·rw[zT h3,zC,zj (by omega) (by omega),zF (by omega),zD,z182 (by omega),if_pos (by omega),if_neg (by omega)];rfl
 ·rw[zF h3,zD,zj (by omega) (by omega),zF (by omega),zD,z182 (by omega),if_neg (by omega),if_pos (by omega)];rfl
theorem z91(h k:Nat):(h&&&2^k=0)↔h.testBit k=false:=by
 constructor
 ·intro e;have:=congrArg (λx=>x.testBit k) e;simpa [jm,dU] using this
 ·intro e;apply iW;intro i;rw[jm,dU];by_cases hi:k=i
  ·subst hi;simp [e]
  ·simp [hi]
theorem al6(h l:Nat)(hh:h<lK)(hl:l<lK)(n:Int):L9 ((h:Int),(l:Int),()) n=some (hG h l n):=by
 unfold L9 ZD AN T5;rw[Sf,zc,vP hh (Yq n),vP hl (Yr n),zc];congr 1;simp only[eU];have e:∀a:Nat,decide ((a:Int)=0)=decide (a=0):=λa=>decide_eq_decide.2 (by omega);rw[e,e];unfold re rf hG;by_cases h1:1<=n/\n<=64
 ·rw[if_pos h1,if_pos h1,if_neg (by omega)];have:=z91 h (64-n).toNat;cases hb:h.testBit (64-n).toNat with
  |false=>simp [this.2 hb]
  |true=>simp;intro hz;exact absurd (this.1 hz) (by simp [hb])
 ·rw[if_neg h1,if_neg h1];by_cases h2:65<=n/\n<=128
  ·rw[if_pos h2,if_pos h2];have:=z91 l (128-n).toNat;cases hb:l.testBit (128-n).toNat with
   |false=>simp [this.2 hb]
   |true=>simp;intro hz;exact absurd (this.1 hz) (by simp [hb])
  ·rw[if_neg h2,if_neg h2];simp
theorem zdk(h l h' l':Nat)(hh:h<lK)(hl:l<lK)(Iq:h'<lK)(sZ:l'<lK):BQ ((h:Int),(l:Int),()) ((h':Int),(l':Int),())=some (((h|||h':Nat):Int),((l|||l':Nat):Int),()):=by unfold BQ ZC;rw[EZ hh Iq,EZ hl sZ]
theorem Qf(h l h' l':Nat)(hh:h<lK)(hl:l<lK)(Iq:h'<lK)(sZ:l'<lK):AN ((h:Int),(l:Int),()) ((h':Int),(l':Int),())=some (((h&&&h':Nat):Int),((l&&&l':Nat):Int),()):=by unfold AN T5;rw[vP hh Iq,vP hl sZ]
theorem QT(h l:Nat)(hh:h<lK)(hl:l<lK)(n:Int):FM ((h:Int),(l:Int),()) n=some (((h|||re n:Nat):Int),((l|||rf n:Nat):Int),()):=by unfold FM ZF;rw[Sf,zc,zdk h l _ _ hh hl (Yq n) (Yr n)];rfl
theorem CE{a b:Nat}(ha:a<lK)(hb:b<lK):a|||b<lK:=Nat.or_lt_two_pow (n:=64) ha hb
theorem R8{a b:Nat}(ha:a<lK):a&&&b<lK:=gQ jl ha
theorem ani(h l h' l':Nat)(n:Int):hG (h|||h') (l|||l') n=(hG h l n||hG h' l' n):=by
 unfold hG;split
 ·rw[Nat.testBit_or]
 ·split
  ·rw[Nat.testBit_or]
  ·rfl
theorem Rc(h l h' l':Nat)(n:Int):hG (h&&&h') (l&&&l') n=(hG h l n&&hG h' l' n):=by
 unfold hG;split
 ·rw[jm]
 ·split
  ·rw[jm]
  ·rfl
def rA(n:Int):Bool:=decide (1<=n/\n<=128)
theorem alM(m n:Int):hG (re m) (rf m) n=(decide (m=n)&&rA n):=by
 unfold hG re rf rA;by_cases h1:1<=n/\n<=64
 ·rw[if_pos h1];by_cases h2:1<=m/\m<=64
  ·rw[if_pos h2,dU,zT (p:=1<=n/\n<=128) (by omega),eU];exact decide_eq_decide.2 (by omega)
  ·rw[if_neg h2,zF (by omega:¬m=n)];simp
 ·rw[if_neg h1];by_cases h3:65<=n/\n<=128
  ·rw[if_pos h3];by_cases h2:65<=m/\m<=128
   ·rw[if_pos h2,dU,zT (p:=1<=n/\n<=128) (by omega),eU];exact decide_eq_decide.2 (by omega)
   ·rw[if_neg h2,zF (by omega:¬m=n)];simp
  ·rw[if_neg h3,zF (p:=1<=n/\n<=128) (by omega),eL]
theorem ai0(h l:Nat)(m n:Int):hG (h|||re m) (l|||rf m) n=(hG h l n||(decide (m=n)&&rA n)):=by rw[ani,alM]
theorem zgz{h l:Nat}{n:Int}(hh:hG h l n=true):1<=n/\n<=128:=by
 unfold hG at hh;split at hh
 ·omega
 ·split at hh
  ·omega
  ·cases hh
theorem Ru{h l h' l':Nat}(hh:h<lK)(hl:l<lK)(Iq:h'<lK)(sZ:l'<lK)(e:∀n:Int,1<=n->n<=128->hG h l n=hG h' l' n):h=h'/\l=l':=by
 constructor
 ·apply iW;intro i;by_cases hi:i<64
  ·have:=e (64-i) (by omega) (by omega);unfold hG at this;rw[if_pos (by omega),if_pos (by omega)] at this;have e2:(64-(64-(i:Int))).toNat=i:=by omega
   rwa [e2] at this
  ·rw[dx (fC hh (cS (n:=2) (by decide) (by omega:64<=i))),dx (fC Iq (cS (n:=2) (by decide) (by omega:64<=i)))]
 ·apply iW;intro i;by_cases hi:i<64
  ·have:=e (128-i) (by omega) (by omega);unfold hG at this;have h1:¬(1<=128-(i:Int)/\128-(i:Int)<=64):=by omega
   have h2:65<=128-(i:Int)/\128-(i:Int)<=128:=by omega
   rw[if_neg h1,if_pos h2,if_neg h1,if_pos h2] at this;have e2:(128-(128-(i:Int))).toNat=i:=by omega
   rwa [e2] at this
  ·rw[dx (fC hl (cS (n:=2) (by decide) (by omega:64<=i))),dx (fC sZ (cS (n:=2) (by decide) (by omega:64<=i)))]
def kB(l:List Int):Nat:=l.foldl (λa n=>a|||re n) 0
def lf(l:List Int):Nat:=l.foldl (λa n=>a|||rf n) 0
theorem zrp(f:Int->Nat)(hf:∀n,f n<lK)(l:List Int):∀a,a<lK->l.foldl (λa n=>a|||f n) a<lK:=by
 induction l with
 |nil=>intro a h;exact h
 |cons x r ih=>intro a h;exact ih _ (CE h (hf x))
theorem AE(l:List Int):kB l<lK:=zrp _ Yq l 0 (by decide)
theorem AF(l:List Int):lf l<lK:=zrp _ Yr l 0 (by decide)
theorem aiU(l:List Int):∀(a b:Nat) (n:Int),hG (l.foldl (λa n=>a|||re n) a) (l.foldl (λa n=>a|||rf n) b) n=(hG a b n||(decide (n∈l)&&rA n)):=by
 induction l with
 |nil=>intro a b n;simp
 |cons x r ih=>
  intro a b n;rw[cm,cm,ih,ai0];by_cases h1:x=n
  ·subst h1;cases rA x<;>simp
  ·have:n≠x:=λe=>h1 e.symm;simp [h1,this]
theorem Kj(l:List Int)(n:Int):hG (kB l) (lf l) n=(decide (n∈l)&&rA n):=by
 unfold kB lf;rw[aiU];have:hG 0 0 n=false:=by unfold hG;simp
 rw[this];simp
theorem alT(xs:List Int)(hx:xs.length<=9223372036854775807)(b0:Di):∀(n j k:Nat) (a b:Nat),j+n=xs.length->n<k->a<lK->b<lK->
 HF k xs (xs.length:Int) j b0 ((a:Int),(b:Int),())=some (b0,((((xs.drop j).foldl (λa n=>a|||re n) a:Nat):Int),(((xs.drop j).foldl (λa n=>a|||rf n) b:Nat):Int),())):=by
 intro n
 induction n with
 |zero=>
  intro j k a b hj hk ha hb;obtain⟨k,rfl⟩:∃k',k=k'+1:=⟨k-1,by omega⟩
  rw[HF,T4,zF (by omega),aK (by omega)];rfl
 |succ n ih=>
  intro j k a b hj hk ha hb;obtain⟨k,rfl⟩:∃k',k=k'+1:=⟨k-1,by omega⟩
  have bR:j<xs.length:=by omega
  have GZ:xs.getD ((j:Int)).toNat 0=xs[j]:=by rw[ar,al,av bR];rfl
  rw[HF,T4,zT (by omega),zC,zi bR,GZ,QT a b ha hb,zc,zu (by omega),ih (j+1) k _ _ (by omega) (by omega) (CE ha (Yq _)) (CE hb (Yr _)),aO bR];rfl
theorem FD(xs:List Int)(hx:xs.length<=maxLen):BP xs=some ((kB xs:Int),(lf xs:Int),()):=by rw[zh] at hx;unfold BP ZA;have:=alT xs hx (0,0,()) xs.length 0 bG 0 0 (by omega) (by rw[zv];omega) (by decide) (by decide);simp only[ZB];have e:HF bG xs (xs.length:Int) 0 (0,0,()) (0,0,())=_:=this;rw[e];rfl
def xL:List Int:=(List.range 128).map λk:Nat=>((k+1:Nat):Int)
theorem aji(n:Int):n∈xL↔1<=n/\n<=128:=by
 unfold xL;constructor
 ·intro h;obtain⟨k,hk,rfl⟩:=bm.1 h;have:=List.mem_range.1 hk;omega
 ·intro h;exact bm.2 ⟨(n-1).toNat,List.mem_range.2 (by omega),by omega⟩
theorem acN:xL.Pairwise (· < ·):=by unfold xL;exact List.Pairwise.map _ (λa b h=>by omega) List.pairwise_lt_range
def elems(h l:Nat):List Int:=xL.filter (hG h l)
theorem Ho(h l:Nat)(n:Int):n∈elems h l↔hG h l n=true:=by unfold elems;rw[bf,aji];exact⟨λh=>h.2,λh=>⟨zgz h,h⟩⟩
theorem Vg(h l:Nat):(elems h l).Pairwise (· < ·):=acN.filter _
def qU(h l:Nat)(n:Int):Int:=((elems h l).filter λm=>decide (n<m)).headD 0
def YG(h l:Nat)(n r:Int):Prop:=(r=0/\∀m,n<m->hG h l m=false)\/(n<r/\hG h l r=true/\∀m,n<m->m<r->hG h l m=false)
theorem ajn(h l:Nat)(n:Int):YG h l n (qU h l n):=by
 unfold qU;cases hf:(elems h l).filter λm=>decide (n<m) with
 |nil=>
  left;refine⟨rfl,λm hm=> ?_⟩;cases hb:hG h l m with
  |false=>rfl
  |true=>have:m∈(elems h l).filter λm=>decide (n<m):=bf.2 ⟨(Ho h l m).2 hb,by simpa using hm⟩;rw[hf] at this;cases this
 |cons x r=>
  right;have hx:x∈(elems h l).filter λm=>decide (n<m):=by rw[hf];simp
  obtain⟨h1,h2⟩:=bf.1 hx;refine⟨by simpa using h2,(Ho h l x).1 h1,λm hm hmx=> ?_⟩;cases hb:hG h l m with
  |false=>rfl
  |true=>
   have gL:m∈(elems h l).filter λm=>decide (n<m):=bf.2 ⟨(Ho h l m).2 hb,by simpa using hm⟩;have hs:=(Vg h l).filter (λm=>decide (n<m));rw[hf] at gL hs;rcases aD.1 gL with e|e
   ·simp only[List.headD_cons] at hmx;omega
   ·have:=(bk.1 hs).1 m e;simp only[List.headD_cons] at hmx;omega
theorem abQ{h l:Nat}{n r q:Int}(h1:YG h l n r)(h2:YG h l n q):r=q:=by
 rcases h1 with⟨e,a⟩|⟨e,a,b⟩<;>rcases h2 with⟨e',a'⟩|⟨e',a',b'⟩
 ·rw[e,e']
 ·rw[a q e'] at a';cases a'
 ·rw[a' r e] at a;cases a
 ·rcases Int.lt_trichotomy r q with h|h|h
  ·rw[b' r e h] at a;cases a
  ·exact h
  ·rw[b q e' h] at a';cases a'
theorem OZ(x n:Nat)(hx:x<lK)(hn:n<=64):
 (x*2^n % lK=0/\∀i,i<64-n->x.testBit i=false)\/
 (x*2^n % lK≠0/\oQ (x*2^n % lK)<=64/\n<oQ (x*2^n % lK)/\x.testBit (oQ (x*2^n % lK)-1-n)=true/\∀i,oQ (x*2^n % lK)-1-n<i->i<64-n->x.testBit i=false):=by
 have hb:∀i,(x*2^n % lK).testBit i=(decide (i<64)&&(decide (n<=i)&&x.testBit (i-n))):=by intro i;rw[show lK=2^64 from rfl,Nat.testBit_mod_two_pow,Nat.testBit_mul_two_pow]
 generalize x*2^n % lK=r at hb;have hr:∀i,i<64-n->x.testBit i=r.testBit (i+n):=by intro i hi;rw[hb,zT (by omega),zT (by omega),Nat.add_sub_cancel];rfl
 by_cases h0:r=0
 ·left;refine⟨h0,λi hi=> ?_⟩;rw[hr i hi,h0];simp
 ·right;obtain⟨g1,g2⟩:=Vi r;obtain⟨g3,g4⟩:=g2 h0;have aaI:r.testBit (oQ r-1)=true:=by
   rw[eR];have hp:=kY (oQ r-1);have:r/2^(oQ r-1)=1:=by
    apply Nat.div_eq_of_lt_le
    ·omega
    ·have:2^oQ r=2*2^(oQ r-1):=by rw[<-Nat.pow_succ'];congr 1;omega
     omega
   rw[this];rfl
  have bR:=aaI;rw[hb] at bR;simp only[ap,decide_eq_true_eq] at bR;refine⟨h0,by omega,by omega,?_,λi h1 h2=> ?_⟩
  ·exact bR.2.2
  ·rw[hr i h2];exact dx (fC g1 (cS (by decide) (by omega)))
theorem Rv(x n:Nat)(hn:n<=64):IntKind.u64.wrap ((x:Int)*2^min ((n:Int)).toNat 64)=((x*2^n % lK:Nat):Int):=by
 rw[zxo,ar,bN hn];have e:((x:Int)*2^n)=((x*2^n:Nat):Int):=by simp
 rw[e];rfl
theorem Qg(h l:Nat)(hh:h<lK)(hl:l<lK)(n:Int)(hn1: -9223372036854775808<=n)(hn2:n<=9223372036854775807):DI ((h:Int),(l:Int),()) n=some (qU h l n):=by
 have goal:∀r,YG h l n r->some r=some (qU h l n):=λr hr=>by rw[abQ hr (ajn h l n)]
 unfold DI ZE;obtain⟨m,hm,hmn⟩:∃m:Nat,(if n<(0:Int) then(0:Int) else n)=(m:Int)/\(n<=(m:Int)/\(0<=n->n=m)/\(n<0->m=0)):=by
  by_cases h0:n<0
  ·exact⟨0,by rw[if_pos h0];rfl,by omega,by omega,by omega⟩
  ·exact⟨n.toNat,by rw[if_neg h0];omega,by omega,by omega,by omega⟩
 have uW:∀k:Int,k<=0->hG h l k=false:=λk hk=>by unfold hG;rw[if_neg (by omega),if_neg (by omega)]
 have low:∀(tE base:Nat),tE<=64->(tE<64->base=64+tE)->(tE=64->128<=base)->(m:Int)<=base->base<=9223372036854775807->(∀k,n<k->k<=base->k<=128->hG h l k=false)->
  (bif !(decide (IntKind.u64.wrap ((l:Int)*2^min ((tE:Int)).toNat 64)=0)) then(vD (IntKind.u64.wrap ((l:Int)*2^min ((tE:Int)).toNat 64))).bind (λr=>some (zW zI (zW zI ((base:Int)+r)+1))) else some 0)=some (qU h l n):=by
  intro tE base h1 h2 h2' h3 anB h4;rw[Rv l tE h1];have bR:l*2^tE % lK<lK:=Nat.mod_lt _ (by decide);rcases OZ l tE hl h1 with⟨e,w⟩|⟨e,w1,w2,w3,w4⟩
  ·rw[e,zT (by rfl)];refine goal 0 (.inl ⟨rfl,λk hk=> ?_⟩);by_cases GI:k<=base/\k<=128
   ·exact h4 k hk GI.1 GI.2
   ·unfold hG;by_cases KS:65<=k/\k<=128
    ·rw[if_neg (by omega),if_pos KS];exact w _ (by omega)
    ·by_cases hk4:1<=k/\k<=64
     ·omega
     ·rw[if_neg hk4,if_neg KS]
  ·have aaF:tE<64:=by omega
   have anv:=h2 aaF;rw[zF (by omega)];simp only[aY,zC];rw[z9m _ bR,zc,zj (x:=(base:Int)+_) (by omega) (by omega),zj (by omega) (by omega)];refine goal _ (.inr ⟨by omega,?_,λk UL GI=> ?_⟩)
   ·unfold hG;rw[if_neg (by omega),if_pos (by omega)];have:(128-((base:Int)+((64-oQ (l*2^tE % lK):Nat):Int)+1)).toNat=oQ (l*2^tE % lK)-1-tE:=by omega
    rw[this];exact w3
   ·by_cases KS:k<=base
    ·exact h4 k UL KS (by omega)
    ·unfold hG;rw[if_neg (by omega),if_pos (by omega)];exact w4 _ (by omega) (by omega)
 simp only[hm];by_cases c1:m<64
 ·rw[zT (by omega),zC,zF (by omega),zD,Rv h m (by omega)];have bR:h*2^m % lK<lK:=Nat.mod_lt _ (by decide);rcases OZ h m hh (by omega) with⟨e,w⟩|⟨e,w1,w2,w3,w4⟩
  ·rw[e,zT (by rfl)];have:=low 0 64 (by omega) (by omega) (by omega) (by omega) (by omega) (λk UL GI _=>by
    by_cases KS:1<=k
    ·unfold hG;rw[if_pos (by omega)];exact w _ (by omega)
    ·exact uW k (by omega))
   exact this
  ·rw[zF (by omega)];simp only[aY,zC];rw[z9m _ bR,zc,zj (x:=(m:Int)+_) (by omega) (by omega),zj (by omega) (by omega)];refine goal _ (.inr ⟨by omega,?_,λk UL GI=> ?_⟩)
   ·unfold hG;rw[if_pos (by omega)];have:(64-((m:Int)+((64-oQ (h*2^m % lK):Nat):Int)+1)).toNat=oQ (h*2^m % lK)-1-m:=by omega
    rw[this];exact w3
   ·by_cases KS:1<=k
    ·unfold hG;rw[if_pos (by omega)];exact w4 _ (by omega) (by omega)
    ·exact uW k (by omega)
 ·rw[zF (by omega),zD,zj (x:=(m:Int)-64) (by omega) (by omega)];have EJ:((m:Int)-64)=((m-64:Nat):Int):=by omega
  obtain⟨tE,hs,ID⟩:∃tE:Nat,(if(64:Int)<(m:Int)-64 then(64:Int) else(m:Int)-64)=(tE:Int)/\tE<=64/\(tE<64->m=64+tE)/\(tE=64->128<=m):=by
   by_cases h0:(64:Int)<(m:Int)-64
   ·exact⟨64,by rw[if_pos h0];rfl,by omega,by omega,by omega⟩
   ·exact⟨m-64,by rw[if_neg h0];omega,by omega,by omega,by omega⟩
  simp only[hs];rw[zF (by omega),zD];exact low tE m ID.1 ID.2.1 ID.2.2 (by omega) (by omega) (λk UL GI _=>by omega)
theorem zzf(n a:Nat)(h:a<2^n):(BitVec.ofInt n (a:Int)).toNat=a:=by
 rw[BitVec.toNat_ofInt];have h2:((a:Int)% ((2^n:Nat):Int))=((a % 2^n:Nat):Int):=by rfl
 rw[h2,ar,Nat.mod_eq_of_lt h]
theorem z139{k:IntKind}{a b:Nat}(ha:a<2^k.bits)(hb:b<2^k.bits):dv .or k a b=k.wrap ((a|||b:Nat):Int):=by simp only[dv,BitVec.toNat_or,zzf _ _ ha,zzf _ _ hb]
def mY(b:List Int):Int:=if b.length<2 then 0 else b.getD 0 0*256+b.getD 1 0
theorem zoc{x y:Int}(hx:zl x)(hy:zl y):dv .or .i64 (zW zI (zW zI x*2^min (8:Int).toNat 64)) (zW zI y)=x*256+y:=by
 unfold zl at hx hy;obtain⟨x,rfl⟩:=kc hx.1;obtain⟨y,rfl⟩:=kc hy.1;rw[Fs (by omega),Fs (by omega)];have h1:((x:Int)*(2:Int)^min (8:Int).toNat 64)=((x<<<8:Nat):Int):=by rw[Nat.shiftLeft_eq];rfl
 have h3:x<<<8=x*256:=by rw[Nat.shiftLeft_eq]
 rw[h1,Fs (by omega),z139 (by simp only[gY];omega) (by simp only[gY];omega),<-Nat.shiftLeft_add_eq_or_of_lt (by omega:y<2^8),h3,Fs (by omega)];omega
theorem JT{b:List Int}(hb:∀x∈b,zl x)(i:Nat):zl (b.getD i 0):=by
 rw[al];cases h:b[i]? with
 |none=>exact⟨by simp,by simp⟩
 |some x=>exact hb x (List.mem_of_getElem? h)
theorem VK{b:List Int}(hb:∀x∈b,zl x):0<=mY b/\mY b<=65535:=by unfold mY;have h0:=JT hb 0;have h1:=JT hb 1;unfold zl at h0 h1;split<;>omega
abbrev Fr:=Int×Bool×List Int×Unit
theorem al1(m:Int)(d:Bool)(b:List Int)(hb:∀x∈b,zl x):Md (m,d,b,())=some (mY b,(m,d,b,())):=by
 unfold Md ZL mY;simp only;by_cases h:b.length<2
 ·rw[zT (by omega:((b.length:Int)<2)),if_pos h];rfl
 ·rw[zF (by omega:¬((b.length:Int)<2)),if_neg h,zD,zp (by omega) (by omega),zp (by omega) (by omega)];exact congrArg some (Prod.ext (zoc (JT hb 0) (JT hb 1)) rfl)
def c8(m:Int)(st:Bool×List Int×List af)(c:Int):Bool×List Int×List af:=
 if st.1=true then st
 else if(st.2.1++ [c]).length=2/\(mY (st.2.1++ [c])=0\/m<mY (st.2.1++ [c])) then(true,[],st.2.2)
 else if((st.2.1++ [c]).length:Int)=2+mY (st.2.1++ [c])/\0<mY (st.2.1++ [c]) then(false,[],st.2.2++ [strOf ((st.2.1++ [c]).drop 2)])
 else(false,st.2.1++ [c],st.2.2)
theorem Ld(m:Int)(l:List Int)(b:List Int)(o:List af):l.foldl (c8 m) (true,b,o)=(true,b,o):=by
 induction l with
 |nil=>rfl
 |cons c r ih=>rw[cm];have:c8 m (true,b,o) c=(true,b,o):=by simp [c8]
               rw[this,ih]
def TN(m:Int)(d:Bool)(r:Bool×List Int×List af):Sum (List af×Bool×List af×Fr) (List af×Fr):=
 if r.1=true/\d=false then .inl (r.2.2,true,r.2.2,(m,true,[],())) else .inr (r.2.2,(m,r.1,r.2.1,()))
theorem adr(m:Int)(l:List Int):∀(d:Bool) (b:List Int) (o:List af),d=false->(l.foldl (c8 m) (d,b,o)).1=true->(l.foldl (c8 m) (d,b,o)).2.1=[]:=by
 induction l with
 |nil=>intro d b o hd h;subst hd;cases h
 |cons c r ih=>
  intro d b o hd h;subst hd;rw[cm] at h⊢;generalize gy:c8 m (false,b,o) c=st at h⊢;obtain⟨d',b',o'⟩:=st;cases d' with
  |false=>exact ih false b' o' rfl h
  |true=>
   rw[Ld];unfold c8 at gy;simp only[Bool.false_eq_true,if_false] at gy;split at gy
   ·cases gy;rfl
   ·split at gy<;>cases gy
theorem zyn(s:af)(m:Int):∀(n j k:Nat) (o:List af) (d:Bool) (b:List Int),j+n=(bl s).length->n<k->(∀x∈b,zl x)->b.length+n<=4398046511104->o.length+n<=4398046511104->(bl s).length<=4398046511104->
 Kr k s o j (m,d,b,())=some (TN m d (((bl s).drop j).foldl (c8 m) (d,b,o)))
 |0,j,k,o,d,b,hj,hk,hb,h1,h2,h3=>by
  obtain⟨k,rfl⟩:∃k',k=k'+1:=⟨k-1,by omega⟩
  rw[Kr,T6];have bR:¬((j:Int)<(s.size:Int)):=by rw[<-zg];omega
  rw[zF bR,aK (by omega)];cases d<;>rfl
 |n+1,j,k,o,d,b,hj,hk,hb,h1,h2,h3=>by
  obtain⟨k,rfl⟩:∃k',k=k'+1:=⟨k-1,by omega⟩
  rw[Kr,T6];have bR:j<(bl s).length:=by omega
  have pj:((j:Int)<(s.size:Int)):=by rw[<-zg];omega
  rw[zT pj,zC,aO bR,cm];cases d with
  |true=>
   have hs:c8 m (true,b,o) (bl s)[j]=(true,b,o):=by simp [c8]
   rw[hs,Ld];simp [TN]
  |false=>
   have hc:ze s ((j:Int)).toNat=(bl s)[j]:=by rw[uF,ar,al,av bR];rfl
   have hbc:zl (bl s)[j]:=su (b6 bR);generalize hcv:(bl s)[j]=c at hc hbc;rw[hc];have Ag:∀x∈b++ [c],zl x:=λx hx=>by
    rcases List.mem_append.1 hx with h|h
    ·exact hb x h
    ·simp at h;subst h;exact hbc
   have lL:=al1 m false (b++ [c]) Ag;have hr:=VK Ag;have hw:zW zI ((2:Int)+mY (b++ [c]))=2+mY (b++ [c]):=zj (by omega) (by omega);have hjw:zW zI ((j:Int)+1)=((j+1:Nat):Int):=zu (by omega);have hl:(b++ [c]).length=b.length+1:=by simp
   rw[zi (by rw[<-zg];exact bR)];simp only[aY,zC];rw[zT (by simp;omega),zC,lL];simp only[zc,hw,hjw];generalize hn:mY (b++ [c])=z at hr hw;have ih:=λo d b=>zyn s m n (j+1) k o d b (by omega) (by omega);have UI:c8 m (false,b,o) c=if(b++ [c]).length=2/\(z=0\/m<z) then(true,[],o) else if((b++ [c]).length:Int)=2+z/\0<z then(false,[],o++ [strOf ((b++ [c]).drop 2)]) else(false,b++ [c],o):=by unfold c8;simp only[Bool.false_eq_true,if_false,hn]
   have dead:∀(l:List Int),TN m false (l.foldl (c8 m) (true,[],o))= .inl (o,true,o,(m,true,[],())):=λl=>by rw[Ld];simp [TN]
   have Iu:=ih o false (b++ [c]) Ag (by rw[hl];omega) (by omega) h3;have aaq:=ih (o++ [strOf ((b++ [c]).drop 2)]) false [] (by simp) (by simp;omega) (by simp;omega) h3;have NF:bu ((2:Int)).toNat (aJ (b++ [c]).length (b++ [c]))=(b++ [c]).drop 2:=by rw[cF];rfl
   simp only[NF];have aav:∀(x:ae (Sum (List af×Bool×List af×Fr) (List af×Fr))),(bif decide (((o.length+ [strOf ((b++ [c]).drop 2)].length)*16:Nat)<=140737488355328) then x else none)=x:=λx=>by rw[zT (by simp;omega)];rfl
   by_cases c1:(b++ [c]).length=2
   ·by_cases c2:z=0
    ·rw[UI,if_pos ⟨c1,.inl c2⟩,dead];simp [c1,c2]
    ·by_cases c3:m<z
     ·rw[UI,if_pos ⟨c1,.inr c3⟩,dead];simp [c1,c2,c3]
     ·rw[UI,if_neg (by simp [c2,c3])];have c4:¬(((b++ [c]).length:Int)=2+z):=by omega
      rw[if_neg (λh=>c4 h.1),<-Iu];have c1':(((b++ [c]).length:Int)=2):=by omega
      rw[zT c1',zF c2,zF c3,zF c4];rfl
   ·have c1':¬(((b++ [c]).length:Int)=2):=by omega
    rw[UI,if_neg (λh=>c1 h.1),zF c1'];by_cases c4:((b++ [c]).length:Int)=2+z
    ·by_cases c5:0<z
     ·rw[if_pos ⟨c4,c5⟩,<-aaq,zT c4,zT c5,zT (by omega:(2:Int)<=(((b++ [c]).length:Nat):Int))];simp only[zC,zD];rw[aav]
     ·rw[if_neg (λh=>c5 h.2),<-Iu,zT c4,zF c5];rfl
    ·rw[if_neg (λh=>c4 h.1),<-Iu,zF c4];rfl
def feed(f:Fr)(s:List Int):List af×Bool×Fr:=
 ((s.foldl (c8 f.1) (f.2.1,f.2.2.1,[])).2.2,decide ((s.foldl (c8 f.1) (f.2.1,f.2.2.1,[])).1=true/\f.2.1=false),(f.1,(s.foldl (c8 f.1) (f.2.1,f.2.2.1,[])).1,(s.foldl (c8 f.1) (f.2.1,f.2.2.1,[])).2.1,()))
theorem alI(f:Fr)(s:af)(hb:∀x∈f.2.2.1,zl x)(h1:f.2.2.1.length+s.size<=4398046511104):HZ f s=some (feed f (bl s)):=by
 obtain⟨m,d,b,u⟩:=f;cases u;unfold HZ ZI;simp only at hb h1⊢;have:=zyn s m (bl s).length 0 bG [] d b (by omega) (by rw[zv,zg];omega) hb (by rw[zg];omega) (by simp;rw[zg];omega) (by rw[zg];omega);rw[show((0:Nat):Int)=0 from rfl] at this;rw[this,zc,aN];unfold TN feed;simp only;split
 ·rename_i h;obtain⟨h4,h5⟩:=h;subst h5;have h3:=adr m (bl s) false b [] rfl h4;simp [mu,ZJ,h3,h4]
 ·rename_i h;simp only[cj,ZK];rw[zF h]
section
variable {α:Type} [DecidableEq α]
end
def od(m:Int)(pos:Int)(l:List Int):List af×List Int×List Int×Int:=
 if h:l.length<2 then([],l,[],-1)
 else if mY l=0\/m<mY l then([],[],[],pos+2)
 else if(l.length:Int)-2<mY l then([],l,[],-1)
 else
  let r:=od m (pos+2+mY l) (l.drop (2+(mY l).toNat))
  (strOf ((l.drop 2).take (mY l).toNat)::r.1,r.2.1,(pos+2+mY l)::r.2.2.1,r.2.2.2)
termination_by l.length
decreasing_by simp only[bF];omega
def Un(e:Sum (af×(List af)×Int×(List Int)×Int×(List af)×(List Int)×Int) (af×(List af)×(List Int)×Int)):ae ((List af)×Int×(List Int)×Int):=
 aI (λwe=>some (we.2.1,we.2.2.1,we.2.2.2.1,we.2.2.2.2.1)) (λwe=>some (we.2.1,zW zI ((we.1.size:Int)-we.2.2.2),we.2.2.1,-1)) e
theorem zyf(l:List Int)(j i:Nat):(l.drop j).getD i 0=l.getD (j+i) 0:=by simp [al,List.getElem?_drop]
theorem ajH(m:Int)(s:af)(hs:(bl s).length<=1099511627776):∀(n j k:Nat) (o:List af) (e:List Int),(bl s).length-j<=n->j<=(bl s).length->n<k->o.length+n<=2199023255552->e.length+n<=2199023255552->
 (Ll k m s o e j).bind Un=some (o++(od m j ((bl s).drop j)).1,((od m j ((bl s).drop j)).2.1.length:Int),e++(od m j ((bl s).drop j)).2.2.1,(od m j ((bl s).drop j)).2.2.2):=by
 intro n
 induction n using Nat.strongRecOn with
 |_ n ih=>
 intro j k o e hn hj hk ho he;obtain⟨k,rfl⟩:∃k',k=k'+1:=⟨k-1,by omega⟩
 rw[Ll,Wo];have lL:s.size=(bl s).length:=(zg s).symm;generalize hl:(bl s).drop j=l;have KT:l.length=(bl s).length-j:=by rw[<-hl,bF]
 have EJ:zW zI ((s.size:Int)-(j:Int))=((l.length:Nat):Int):=by rw[lL,KT,zj (by omega) (by omega)];omega
 rw[EJ,od];by_cases c0:l.length<2
 ·rw[zF (by omega:¬((2:Int)<=(l.length:Int))),dif_pos c0];simp only[zD,zc,Un,cj];rw[EJ];simp
 rw[zT (by omega:((2:Int)<=(l.length:Int))),zC,dif_neg c0];have hx:ze s ((j:Int)).toNat=l.getD 0 0:=by rw[uF,<-hl,zyf];simp
 have hj1:zW zI ((j:Int)+1)=((j+1:Nat):Int):=zu (by omega);have hj2:zW zI ((j:Int)+2)=((j+2:Nat):Int):=by rw[zj (by omega) (by omega)];omega
 have hy:ze s (((j+1:Nat):Int)).toNat=l.getD 1 0:=by rw[uF,<-hl,zyf];simp
 have UM:∀x∈l,zl x:=λx hx=>su (eX (by rw[hl];exact hx));have bx:=JT UM 0;have b_y:=JT UM 1;have hz:=VK UM;have hzz:mY l=l.getD 0 0*256+l.getD 1 0:=by unfold mY;rw[if_neg c0]
 unfold zl at bx b_y;have w1:zW zI (l.getD 0 0)=l.getD 0 0:=zj (by omega) (by omega);have w2:zW zI (l.getD 1 0)=l.getD 1 0:=zj (by omega) (by omega);have w3:zW zI (l.getD 0 0*256)=l.getD 0 0*256:=zj (by omega) (by omega);have w4:zW zI (l.getD 0 0*256+l.getD 1 0)=mY l:=by rw[<-hzz];exact zj (by omega) (by omega)
 generalize mY l=z at*;have w5:zW zI (((j+2:Nat):Int)+z)=((j+2+z.toNat:Nat):Int):=by rw[zj (by omega) (by omega)];omega
 have w6:zW zI (((l.length:Nat):Int)-2)=(l.length:Int)-2:=zj (by omega) (by omega);simp only[hj1,hj2,hx,hy,w1,w2,w3,w4,w5,w6];rw[zi (by omega),zi (by omega)];by_cases c1:z=0
 ·rw[zT c1,if_pos (.inl c1)];simp [Un]
 rw[zF c1,zD];by_cases c2:m<z
 ·rw[zT c2,if_pos (.inr c2)];simp [Un]
 rw[zF c2,if_neg (by simp [c1,c2]),zD];by_cases c3:(l.length:Int)-2<z
 ·rw[zT c3,if_pos c3];simp [Un,EJ]
 rw[zF c3,if_neg c3];simp only[zD];rw[zT (by omega:(0:Int)<=((j+2+z.toNat:Nat):Int)),zT (by omega:((j+2+z.toNat:Nat):Int)<=((s.size:Nat):Int)),zT (by omega:(0:Int)<=((j+2:Nat):Int))];simp only[zC,ar];rw[zT (by omega:((j+2:Nat):Int)<=((j+2+z.toNat:Nat):Int)),zT (by simp;omega),zT (by simp;omega)];simp only[zC];have gy:s.extract (j+2) (j+2+z.toNat)=strOf ((l.drop 2).take z.toNat):=by apply A7;rw[wO (λx hx=>UM x (eX (List.mem_of_mem_take hx))),xU,<-hl,dL,List.drop_take];congr 1;omega
 have:=ih (n-(2+z.toNat)) (by omega) (j+2+z.toNat) k (o++ [s.extract (j+2) (j+2+z.toNat)]) (e++ [((j+2+z.toNat:Nat):Int)]) (by omega) (by omega) (by omega) (by simp;omega) (by simp;omega);rw[this,gy];have hd:(bl s).drop (j+2+z.toNat)=l.drop (2+z.toNat):=by rw[<-hl,dL];congr 1;omega
 rw[hd];have hp:((j+2+z.toNat:Nat):Int)=(j:Int)+2+z:=by omega
 rw[hp];simp
theorem zof(m:Int)(s:af)(hs:s.size<=1099511627776):Bi m s=some ((od m 0 (bl s)).1,((od m 0 (bl s)).2.1.length:Int),(od m 0 (bl s)).2.2.1,(od m 0 (bl s)).2.2.2):=by have:=ajH m s (by rw[zg];exact hs) (bl s).length 0 bG [] [] (by omega) (by omega) (by rw[zv,zg];omega) (by simp;rw[zg];omega) (by simp;rw[zg];omega);unfold Bi Wn;rw[show((0:Nat):Int)=0 from rfl] at this;simp only[aN,bD] at this;exact this
end eD

namespace eD
open Go.IntKind renaming wrap->zW,i64->zI,u8->zU
open Go Go.Ref
theorem aiY{l:List Int}{j:Nat}(h:j<l.length):l.getD ((j:Int)).toNat 0=l[j]:=by rw[ar,al,av h];rfl
theorem af3(l:List Int)(n:Int)(hl:l.length<=maxLen):∀(m j k:Nat),j+m=l.length->m<k->
 Ua k l n j=some (if n∈l.drop j then .inl true else .inr ()):=by
 intro m;rw[zh] at hl
 induction m with
 |zero=>
  intro j k hj hk;obtain⟨k,rfl⟩:∃k',k=k'+1:=⟨k-1,by omega⟩
  rw[Ua,Ju,zF (by omega),aK (by omega)];simp
 |succ m ih=>
  intro j k hj hk;obtain⟨k,rfl⟩:∃k',k=k'+1:=⟨k-1,by omega⟩
  have bR:j<l.length:=by omega
  rw[Ua,Ju,zT (by omega),zC,zi bR,aiY bR,zu (by omega),aO bR];by_cases h:l[j]=n
  ·rw[zT h,if_pos (by rw[h];simp)];rfl
  ·rw[zF h,zD,ih (j+1) k (by omega) (by omega)];have:n≠l[j]:=λe=>h e.symm;simp only[aD,this,false_or]
theorem aj0(l:List Int)(n:Int)(hl:l.length<=maxLen):Q78 l n=some (decide (n∈l)):=by
 unfold Q78 RY;dsimp only;have:=af3 l n hl l.length 0 bG (by omega) (by rw[zv];rw[zh] at hl;omega);rw[show((0:Nat):Int)=0 from rfl,aN] at this;rw[this,zc];by_cases h:n∈l
 ·rw[if_pos h,zT h];rfl
 ·rw[if_neg h,zF h];rfl
theorem ajs:xL.length=128:=by unfold xL;simp
abbrev Spec:=Int×Int×Int×Int×Int×Unit
abbrev zf:=Int×Int×List Spec×Unit
abbrev lJ:Spec:=(0,0,0,0,0,())
theorem YC(c:Int):FG c=some (if c=1 then 1 else if c=2 then 2 else if c=3 then 3 else if c=4 then 7 else if c=5 then 15 else if c=6 then 15 else 0):=by
 unfold FG Y1;simp only[alr]
 repeat' split
 all_goals rfl
theorem zn3(c:Int):HW c=some (decide (1<=c/\c<=6)):=by
 unfold HW YS;rw[YC,zc];congr 1;by_cases h1:c=1
 ·subst h1;rfl
 by_cases h2:c=2
 ·subst h2;rfl
 by_cases h3:c=3
 ·subst h3;rfl
 by_cases h4:c=4
 ·subst h4;rfl
 by_cases h5:c=5
 ·subst h5;rfl
 by_cases h6:c=6
 ·subst h6;rfl
 rw[if_neg h1,if_neg h2,if_neg h3,if_neg h4,if_neg h5,if_neg h6,zF (p:=1<=c/\c<=6) (by omega)];rfl
theorem LR:zG 2=some 99:=by kernel_rfl
theorem LS:zG 3=some 999:=by kernel_rfl
def gj(s:Spec):Int:=
 if s.1<2\/128<s.1 then 1 else if s.2.1<1\/6<s.2.1 then 6 else if s.2.2.1<1\/3<s.2.2.1 then 3
 else if s.2.2.2.1<1\/s.2.2.2.2.1<s.2.2.2.1\/(s.2.2.1=2/\99<s.2.2.2.2.1)\/999<s.2.2.2.2.1\/(s.2.2.1=1/\¬s.2.2.2.1=s.2.2.2.2.1) then 5
 else if s.2.2.1=1/\s.2.1=6 then 13 else 0
theorem Sv(s:Spec):uK s=some (gj s):=by
 obtain⟨no,c,f,mn,mx,u⟩:=s;unfold uK XH gj;simp only[zn3,zc];by_cases h1:no<2\/128<no
 ·rw[if_pos h1];rcases h1 with h|h
  ·rw[zT h];rfl
  ·rw[zT h];cases decide (no<2)<;>rfl
 rw[if_neg h1,zF (by omega),zF (by omega)];by_cases h2:c<1\/6<c
 ·rw[if_pos h2,zF (p:=1<=c/\c<=6) (by omega)];rfl
 rw[if_neg h2,zT (p:=1<=c/\c<=6) (by omega)];simp only[zD,ai];by_cases h3:f<1\/3<f
 ·rw[if_pos h3];rcases h3 with h|h
  ·rw[zT h];rfl
  ·rw[zT h];cases decide (f<1)<;>rfl
 rw[if_neg h3,zF (by omega),zF (by omega)];simp only[zD];by_cases h4:mn<1\/mx<mn\/999<mx
 ·rw[if_pos (by omega)];by_cases a:mn<1
  ·rw[zT a];rfl
  rw[zF a];by_cases b:mx<mn
  ·rw[zT b];rfl
  rw[zF b,zT (by omega)];rfl
 rw[zF (by omega),zF (by omega),zF (by omega)];simp only[zD];by_cases f1:f=1
 ·rw[zT f1];simp only[zC,ai,zD];by_cases e:mn=mx
  ·rw[zT e,if_neg (by omega)];by_cases e6:c=6
   ·rw[zT e6,if_pos (by omega)];rfl
   ·rw[zF e6,if_neg (by omega)];rfl
  ·rw[zF e,if_pos (by omega)];rfl
 ·rw[zF f1];simp only[zD,aY,zC];by_cases f2:f=2
  ·subst f2;rw[LR,zc];by_cases h:99<mx
   ·rw[zT h,if_pos (by omega)];rfl
   ·rw[zF h,if_neg (by omega),if_neg (by omega)];rfl
  ·have f3:f=3:=by omega
   subst f3;rw[LS,zc,zF (by omega),if_neg (by omega),if_neg (by omega)];rfl
theorem C6(s:Spec):KG s=some (gj s):=by
 obtain⟨no,c,f,mn,mx,u⟩:=s;unfold KG R0 gj;simp only;by_cases h1:no<2\/128<no
 ·rw[if_pos h1];rcases h1 with h|h
  ·rw[zT h];rfl
  ·rw[zT h];cases decide (no<2)<;>rfl
 rw[if_neg h1,zF (by omega),zF (by omega)];by_cases h2:c<1\/6<c
 ·rw[if_pos h2];rcases h2 with h|h
  ·rw[zT h];rfl
  ·rw[zT h];cases decide (c<1)<;>rfl
 rw[if_neg h2,zF (by omega),zF (by omega)];by_cases h3:f<1\/3<f
 ·rw[if_pos h3];rcases h3 with h|h
  ·rw[zT h];rfl
  ·rw[zT h];cases decide (f<1)<;>rfl
 rw[if_neg h3,zF (by omega),zF (by omega)];simp only[zD];by_cases f1:f=1
 ·rw[zT f1,zF (by omega:¬f=2)];simp only[zC,zD];by_cases a:mn<1
  ·rw[zT a,if_pos (by omega)];rfl
  rw[zF a];by_cases b:mx<mn
  ·rw[zT b,if_pos (by omega)];rfl
  rw[zF b];by_cases d:999<mx
  ·rw[zT d,if_pos (by omega)];rfl
  rw[zF d];by_cases e:mn=mx
  ·rw[zT e,if_neg (by omega)];by_cases e6:c=6
   ·rw[zT e6,if_pos (by omega)];rfl
   ·rw[zF e6,if_neg (by omega)];rfl
  ·rw[zF e,if_pos (by omega)];rfl
 ·rw[zF f1];simp only[zD];by_cases f2:f=2
  ·rw[zT f2];simp only[zC];by_cases a:mn<1
   ·rw[zT a,if_pos (by omega)];rfl
   rw[zF a];by_cases b:mx<mn
   ·rw[zT b,if_pos (by omega)];rfl
   rw[zF b];by_cases d:99<mx
   ·rw[zT d,if_pos (by omega)];rfl
   rw[zF d,if_neg (by omega),if_neg (by omega)];rfl
  ·rw[zF f2];simp only[zD];by_cases a:mn<1
   ·rw[zT a,if_pos (by omega)];rfl
   rw[zF a];by_cases b:mx<mn
   ·rw[zT b,if_pos (by omega)];rfl
   rw[zF b];by_cases d:999<mx
   ·rw[zT d,if_pos (by omega)];rfl
   rw[zF d,if_neg (by omega),if_neg (by omega)];rfl
def qz:List Spec->Int->Int->Int×Int
 | [],_,_=>(0,0)
 |x::r,i,last=>if gj x≠0 then(gj x,i) else if x.1<=last then(11,i) else qz r (i+1) x.1
def qx(s:zf):Int×Int:=
 if¬(s.1=1\/s.1=2) then(1,-1) else if s.2.1<0\/9<s.2.1 then(7,-1) else qz s.2.2.1 0 0
theorem V0{x:Spec}(h:gj x=0):2<=x.1/\x.1<=128:=by
 unfold gj at h;split at h
 ·cases h
 ·omega
def aag(e:Sum (Int×Int) Unit):ae (Int×Int):=aI (λwe=>some (we.1,we.2)) (λ_=>some (0,0)) e
theorem zym(l:List Spec):∀(i:Int) (last:Int),aag (if(qz l i last).1=0 then .inr () else .inl (qz l i last))=some (qz l i last):=by
 intro i last;by_cases h:(qz l i last).1=0
 ·rw[if_pos h];have:qz l i last=(0,0):=by
   induction l generalizing i last with
   |nil=>rfl
   |cons x r ih=>
    unfold qz at h⊢;split
    ·rename_i h1;rw[if_pos h1] at h;exact absurd h h1
    ·rename_i h1;rw[if_neg h1] at h;split
     ·rename_i h2;rw[if_pos h2] at h;cases h
     ·rename_i h2;rw[if_neg h2] at h;exact ih _ _ h
  rw[this];rfl
 ·rw[if_neg h];rfl
theorem abY(s:zf)(hl:s.2.2.1.length<=maxLen):Kt bG 0 0 s=some (if(qz s.2.2.1 0 0).1=0 then .inr () else .inl (qz s.2.2.1 0 0)):=by
 have h:=G4 lJ s.2.2.1 hl (λi x (last:Int) K=>if gj x≠0 then some (.inl (gj x,i)) else if x.1<=last then some (.inl (11,i)) else K x.1) (λ_=>some (.inr ())) (λk i last=>Kt k last i s)
  (λk i last h0 h1=>by
    rw[Kt,JA,zT h1];simp only[zC,zp h0 h1,C6,zc];by_cases hc:gj (s.2.2.1.getD i.toNat lJ)=0
    ·rw[zT hc,if_neg (λh=>h hc)];simp only[ai,zD];by_cases hn:(s.2.2.1.getD i.toNat lJ).1<=last
     ·rw[zT hn,if_pos hn];rfl
     ·rw[zF hn,if_neg hn];rfl
    ·rw[zF hc,if_pos hc];rfl)
  (λk last=>by rw[Kt,JA,zF (by omega)];rfl) 0
 rw[h];clear h hl;generalize s.2.2.1=l
 suffices∀(i last:Int),fD (λi (x:Spec) (last:Int) K=>if gj x≠0 then some (Sum.inl (gj x,i)) else if x.1<=last then some (.inl (11,i)) else K x.1) (λ_=>some (.inr ())) l i last=some (if(qz l i last).1=0 then(.inr ():Sum (Int×Int) Unit) else .inl (qz l i last)) from this 0 0
 induction l with
 |nil=>intro i last;rfl
 |cons x r ih=>
  intro i last;rw[fD,qz];by_cases hc:gj x≠0
  ·rw[if_pos hc,if_pos hc,if_neg hc]
  ·rw[if_neg hc,if_neg hc];by_cases hn:x.1<=last
   ·rw[if_pos hn,if_pos hn];rfl
   ·rw[if_neg hn,if_neg hn];exact ih _ _
theorem acS(s:zf)(hl:s.2.2.1.length<=maxLen):Q97 s=some (qx s):=by
 unfold Q97 R3 qx;have hx:=zym s.2.2.1 0 0;have Cg:(Kt bG 0 0 s).bind (λe=>aI (λ(we:Int×Int)=>R4 we.1 we.2 λa0 a1=>some (a0,a1)) (λ(we:Unit)=>R5 λa0 a1=>some (a0,a1)) e)=some (qz s.2.2.1 0 0):=by rw[abY s hl,zc];exact hx
 dsimp only;rw[Cg];by_cases h1:s.1=1
 ·rw[zT h1,if_neg (by omega)];by_cases h2:s.2.1<0
  ·rw[zT h2,if_pos (.inl h2)];rfl
  ·rw[zF h2];by_cases h3:9<s.2.1
   ·rw[zT h3,if_pos (.inr h3)];rfl
   ·rw[zF h3,if_neg (by omega)];rfl
 ·rw[zF h1];by_cases h0:s.1=2
  ·rw[zT h0,if_neg (by omega)];by_cases h2:s.2.1<0
   ·rw[zT h2,if_pos (.inl h2)];rfl
   ·rw[zF h2];by_cases h3:9<s.2.1
    ·rw[zT h3,if_pos (.inr h3)];rfl
    ·rw[zF h3,if_neg (by omega)];rfl
  ·rw[zF h0,if_pos (by omega)];rfl
theorem af2{l:List Spec}{j:Nat}(h:j<l.length):l.getD ((j:Int)).toNat ((0:Int),(0:Int),(0:Int),(0:Int),(0:Int),())=l[j]:=by rw[ar,al,av h];rfl
theorem qh(s:zf)(hl:s.2.2.1.length<=9223372036854775807):∀(m j k:Nat) (last:Int),j+m=s.2.2.1.length->m<k->(j=0->last=0)->(∀h:0<j,last=(s.2.2.1.getD (j-1) lJ).1)->
 Hx k s.2.2.1 (s.2.2.1.length:Int) j s=some (if(qz (s.2.2.1.drop j) j last).1=0 then .inr () else .inl (qz (s.2.2.1.drop j) j last)):=by
 intro m
 induction m with
 |zero=>
  intro j k last hj hk h0 h1;obtain⟨k,rfl⟩:∃k',k=k'+1:=⟨k-1,by omega⟩
  rw[Hx,Tw,zF (by omega),aK (by omega)];rfl
 |succ m ih=>
  intro j k last hj hk h0 h1;obtain⟨k,rfl⟩:∃k',k=k'+1:=⟨k-1,by omega⟩
  have bR:j<s.2.2.1.length:=by omega
  have ihj:=ih (j+1) k (s.2.2.1[j]).1 (by omega) (by omega) (by omega) (λ_=>by rw[Nat.add_sub_cancel,al,av bR];rfl)
  rw[Hx,Tw,zT (by omega),zC,zi bR,af2 bR,Sv,zc,zu (by omega),aO bR];rw[show((j+1:Nat):Int)=(j:Int)+1 from rfl] at ihj⊢;by_cases hc:gj s.2.2.1[j]=0
  ·rw[zT hc];simp only[ai,zD];have vn:=V0 hc;by_cases hz:j=0
   ·have vZ:=h0 hz;have e:qz (s.2.2.1[j]::s.2.2.1.drop (j+1)) j last=qz (s.2.2.1.drop (j+1)) ((j:Int)+1) (s.2.2.1[j]).1:=by rw[qz,if_neg (λh=>h hc),if_neg (by omega)]
    rw[zF (by omega),zD,e];exact ihj
   ·have vZ:=h1 (by omega);have hi:zW zI ((j:Int)-1)=((j-1:Nat):Int):=by rw[zj (by omega) (by omega)];omega
    rw[zT (by omega),zC,hi,zi (by omega),ar];by_cases hn:(s.2.2.1[j]).1<=last
    ·have e:qz (s.2.2.1[j]::s.2.2.1.drop (j+1)) j last=(11,(j:Int)):=by rw[qz,if_neg (λh=>h hc),if_pos hn]
     rw[e,zT (by rw[<-vZ];exact hn)];rfl
    ·have e:qz (s.2.2.1[j]::s.2.2.1.drop (j+1)) j last=qz (s.2.2.1.drop (j+1)) ((j:Int)+1) (s.2.2.1[j]).1:=by rw[qz,if_neg (λh=>h hc),if_neg hn]
     rw[e,zF (by rw[<-vZ];exact hn)];exact ihj
  ·have e:qz (s.2.2.1[j]::s.2.2.1.drop (j+1)) j last=(gj s.2.2.1[j],(j:Int)):=by rw[qz,if_pos hc]
   rw[zF hc,e,if_neg hc];rfl
theorem SR(s:zf)(hl:s.2.2.1.length<=maxLen):vG s=some (qx s):=by
 rw[zh] at hl;unfold vG Lp qx;have hx:=zym s.2.2.1 0 0;have NO:=qh s hl s.2.2.1.length 0 bG 0 (by omega) (by rw[zv];omega) (λ_=>rfl) (λh=>absurd h (by omega));rw[aN,show((0:Nat):Int)=0 from rfl] at NO;have Cg:(Hx bG s.2.2.1 (s.2.2.1.length:Int) 0 s).bind (λe=>aI (λ(we:Int×Int)=>Xv we.1 we.2 λa0 a1=>some (a0,a1)) (λ(we:Unit)=>Xw λa0 a1=>some (a0,a1)) e)=some (qz s.2.2.1 0 0):=by rw[NO,zc];exact hx
 dsimp only;rw[Cg];by_cases h1:s.1=1
 ·rw[zT h1,if_neg (by omega)];by_cases h2:s.2.1<0
  ·rw[zT h2,if_pos (.inl h2)];rfl
  ·rw[zF h2];by_cases h3:9<s.2.1
   ·rw[zT h3,if_pos (.inr h3)];rfl
   ·rw[zF h3,if_neg (by omega)];rfl
 ·rw[zF h1];by_cases h0:s.1=2
  ·rw[zT h0,if_neg (by omega)];by_cases h2:s.2.1<0
   ·rw[zT h2,if_pos (.inl h2)];rfl
   ·rw[zF h2];by_cases h3:9<s.2.1
    ·rw[zT h3,if_pos (.inr h3)];rfl
    ·rw[zF h3,if_neg (by omega)];rfl
  ·rw[zF h0,if_pos (by omega)];rfl
def pg(l:List Spec)(no:Int):ae Spec:=l.find? λx=>decide (x.1=no)
def n6:List Spec->Int->Int->Int
 | [],_,_=> -1
 |x::r,no,i=>if x.1=no then i else n6 r no (i+1)
theorem ajY(s:zf)(no:Int)(hl:s.2.2.1.length<=maxLen):oU s no=some (match pg s.2.2.1 no with|some x=>(x,true)|none=>(lJ,false)):=by
 unfold oU Xy pg;dsimp only;have h:=jJ lJ s.2.2.1 hl (λi x (_:Unit) K=>bif decide (x.1=no) then some (Sum.inl (true,x)) else K ()) (λ_=>some (.inr lJ)) (λk i _=>Tx k no s.2.2.1 (s.2.2.1.length:Int) i lJ) (λk i _=>rfl) ();rw[h,];clear h hl;generalize(0:Int)=i;generalize s.2.2.1=l
 induction l generalizing i with
 |nil=>rfl
 |cons x r ih=>
  rw[fD,dn];cases hx:decide (x.1=no) with
  |true=>rfl
  |false=>exact ih (i+1)
theorem adu(l:List Spec)(no:Int):∀i:Int,0<=i->(n6 l no i= -1/\pg l no=none)\/(i<=n6 l no i/\n6 l no i<i+l.length/\∃x,pg l no=some x/\l.getD (n6 l no i-i).toNat lJ=x):=by
 induction l with
 |nil=>intro i hi;left;exact⟨rfl,rfl⟩
 |cons x r ih=>
  intro i hi;unfold n6 pg;by_cases h:x.1=no
  ·right;rw[if_pos h,dn,zT h];refine⟨by omega,by simp;omega,x,rfl,by simp⟩
  ·rw[if_neg h,dn,zF h];rcases ih (i+1) (by omega) with⟨h1,h2⟩|⟨h1,h2,y,h3,h4⟩
   ·left;exact⟨h1,h2⟩
   ·right;refine⟨by omega,by simp;omega,y,h3,?_⟩;have:(n6 r no (i+1)-i).toNat=(n6 r no (i+1)-(i+1)).toNat+1:=by omega
    rw[this];simpa using h4
theorem Vu(s:zf)(no:Int)(hl:s.2.2.1.length<=maxLen):KH s no=some (n6 s.2.2.1 no 0):=by
 unfold KH R6;dsimp only;have h:=jJ lJ s.2.2.1 hl (λi x (_:Unit) K=>bif decide (x.1=no) then some (Sum.inl i) else K ()) (λ_=>some (.inr ())) (λk i _=>JB k no i s) (λk i _=>rfl) ();rw[h];clear h hl;generalize(0:Int)=i;generalize s.2.2.1=l
 induction l generalizing i with
 |nil=>rfl
 |cons x r ih=>
  rw[fD,n6];by_cases hx:x.1=no
  ·rw[zT hx,if_pos hx];rfl
  ·rw[zF hx,if_neg hx];exact ih (i+1)
theorem zyu(n:Int):hG 0 0 n=false:=by unfold hG;simp
theorem adI{a b:zf}:a=b↔a.1=b.1/\a.2.1=b.2.1/\a.2.2.1=b.2.2.1:=by obtain⟨x,y,z,u⟩:=a;obtain⟨x',y',z',u'⟩:=b;simp
instance:DecidableEq zf:=λa b=>decidable_of_iff _ adI.symm
def Lk(l:List Spec)(last:Int):Prop:=(∀x∈l,gj x=0)/\(l.Pairwise λx y=>x.1<y.1)/\∀x∈l,last<x.1
theorem agJ(l:List Spec):∀(i last:Int),(qz l i last).1=0↔Lk l last:=by
 induction l with
 |nil=>intro i last;simp [qz,Lk]
 |cons x r ih=>
  intro i last;unfold qz;by_cases hc:gj x=0
  ·rw[if_neg (λh=>h hc)];by_cases hn:x.1<=last
   ·rw[if_pos hn];constructor
    ·intro h;cases h
    ·intro⟨_,_,h3⟩;have:=h3 x (by simp);omega
   ·rw[if_neg hn,ih];constructor
    ·intro⟨h1,h2,h3⟩;refine⟨λy hy=> ?_,bk.2 ⟨h3,h2⟩,λy hy=> ?_⟩
     ·rcases aD.1 hy with rfl|hy
      ·exact hc
      ·exact h1 y hy
     ·rcases aD.1 hy with rfl|hy
      ·omega
      ·have:=h3 y hy;omega
    ·intro⟨h1,h2,h3⟩;obtain⟨h4,h5⟩:=bk.1 h2;exact⟨λy hy=>h1 y (by simp [hy]),h5,h4⟩
  ·rw[if_pos hc];constructor
   ·intro h;exact absurd h hc
   ·intro⟨h1,_,_⟩;exact absurd (h1 x (by simp)) hc
def pL(s:zf):Prop:=(s.1=1\/s.1=2)/\0<=s.2.1/\s.2.1<=9/\Lk s.2.2.1 0
theorem C8(s:zf):(qx s).1=0↔pL s:=by
 unfold qx pL;by_cases h1:s.1=1\/s.1=2
 ·rw[if_neg (λh=>h h1)];by_cases h2:s.2.1<0\/9<s.2.1
  ·rw[if_pos h2];constructor
   ·intro h;cases h
   ·intro⟨_,a,b,_⟩;omega
  ·rw[if_neg h2,agJ];constructor
   ·intro h;exact⟨h1,by omega,by omega,h⟩
   ·intro⟨_,_,_,h⟩;exact h
 ·rw[if_pos h1];constructor
  ·intro h;cases h
  ·intro⟨a,_⟩;exact absurd a h1
theorem Lk.filter{l:List Spec}{last:Int}(h:Lk l last)(p:Spec->Bool):Lk (l.filter p) last:=
 ⟨λx hx=>h.1 x (bf.1 hx).1,h.2.1.filter p,λx hx=>h.2.2 x (bf.1 hx).1⟩
theorem zcm(s:zf)(hl:s.2.2.1.length<=maxLen):Bd s=some (decide ((qx s).1=0)):=by unfold Bd Qh;rw[acS s hl,zc]
abbrev eY:=af×af×Unit
def ux:eY:=(bs [],bs [],())
instance aaR (a:af) (l:List af):Decidable (a∈l):=decidable_of_iff (l.any (λx=>decide (a=x))=true) (by rw[List.any_eq_true];exact⟨λ⟨x,hx,h⟩=>of_decide_eq_true h▸hx,λh=>⟨a,h,zT rfl⟩⟩)
def H6(r:Int):Sum Int Unit:=if r= -1 then .inr () else .inl r
theorem zx7(j:Nat):H6 (j:Int)= .inl (j:Int):=if_neg (by omega)
def mR{K:Type}(l:List K):List (K×Bool):=l.map λk=>(k,true)
theorem VF{K:Type}[DecidableEq K](eq:K->K->Bool)(heq:∀x y,eq x y=decide (x=y))(k:K):∀l:List K,n7 eq false (mR l) k=true↔k∈l
 | []=>by simp [mR,n7]
 |x::l=>by
  simp only[mR,bd,n7,heq];by_cases h:k=x
  ·rw[zT h,zC];exact⟨λ_=>by rw[h];exact aM,λ_=>rfl⟩
  ·rw[zF h,zD];have:=VF eq heq k l;simp only[mR] at this;rw[this];exact⟨λh'=>aE _ h',λh'=>(aD.1 h').resolve_left h⟩
theorem VG{K:Type}[DecidableEq K](eq:K->K->Bool)(heq:∀x y,eq x y=decide (x=y))(k:K):∀l:List K,n8 eq (mR l) k=true↔k∈l
 | []=>by simp [mR,n8]
 |x::l=>by
  simp only[mR,bd,n8,heq];by_cases h:k=x
  ·rw[zT h,zC];exact⟨λ_=>by rw[h];exact aM,λ_=>rfl⟩
  ·rw[zF h,zD];have:=VG eq heq k l;simp only[mR] at this;rw[this];exact⟨λh'=>aE _ h',λh'=>(aD.1 h').resolve_left h⟩
theorem JW{b:Bool}{p:Prop}(h:b=true↔p)(hp:¬p):b=false:=by cases b with
 |false=>rfl
 |true=>exact absurd (h.1 rfl) hp
theorem z9h{K:Type}(l:List K)(k:K):mR l++ [(k,true)]=mR (l++ [k]):=by simp [mR]
def qj:List af->List eY->Int->ae Int
 |_,[],_=>none
 |seen,p::r,i=>if p.1∈seen then some i else qj (seen++ [p.1]) r (i+1)
def zA(l:List eY):Int×Int:=if 256<l.length then(5,256) else match qj [] l 0 with
 |some i=>(10,i)
 |none=>(0,0)
def Eo(o:ae Int):ae (Sum (Int×Int) Unit):=some (match o with
 |some i=> .inl (10,i)
 |none=> .inr ())
theorem zx2(l:List eY):∀(i:Int) (seen:List af),
 fD (λi (x:eY) (s:List sc) K=>bif n7 (pf .str) false s x.1 then some (Sum.inl ((10:Int),i)) else bif n8 (pf .str) s x.1 then none else K (s++ [(x.1,true)])) (λ_=>some (Sum.inr ())) l i (mR seen)=Eo (qj seen l i):=by
 induction l with
 |nil=>intro i seen;rfl
 |cons p r ih=>
  intro i seen;simp only[fD,qj];have e1:=VF (pf .str) (λ_ _=>rfl) p.1 seen;have e2:=VG (pf .str) (λ_ _=>rfl) p.1 seen;by_cases h:p.1∈seen
  ·rw[e1.2 h,if_pos h];rfl
  ·rw[JW e1 h,JW e2 h,if_neg h,zD,zD,z9h];exact ih (i+1) (seen++ [p.1])
theorem z107(l:List eY)(h:l.length<=maxLen):L2 l=some (zA l):=by
 unfold L2 Y9 zA;dsimp only;by_cases hl:256<l.length
 ·rw[zT (by omega),zC,if_pos hl]
 ·rw[zF (by omega),zD,if_neg hl];have:=jJ ux l h (λi (x:eY) (s:List sc) K=>bif n7 (pf .str) false s x.1 then some (Sum.inl ((10:Int),i)) else bif n8 (pf .str) s x.1 then none else K (s++ [(x.1,true)])) (λ_=>some (Sum.inr ()))
   (λk i s=>T1 k l (l.length:Int) i s) (λk i s=>rfl) []
  rw[this];have h2:=zx2 l 0 [];rw[show mR ([]:List af)=[] from rfl] at h2;rw[h2];unfold Eo;cases qj [] l 0<;>rfl
def qt:List eY->af->Int->Int
 | [],_,_=> -1
 |p::r,f,i=>if p.1=f then i else qt r f (i+1)
theorem zmf(l:List eY)(hl:l.length<=9223372036854775807)(n:Nat)(hn:n<=l.length)(f:af):∀(m j k:Nat),j+m=n->m<k->S4 k l (n:Int) f (j:Int)=some (H6 (qt ((l.take n).drop j) f j))
 |m,j,0,_,hk=>by omega
 |0,j,k+1,hj,hk=>by
  have:j=n:=by omega
  subst this;unfold S4 zt6;rw[zF (by omega),aK (by rw[aU];omega)];rfl
 |m+1,j,k+1,hj,hk=>by
  have bR:j<l.length:=by omega
  unfold S4 zt6;rw[zT (by omega),zC,zi bR,ar];have hd:(l.take n).drop j=l[j]::(l.take n).drop (j+1):=by rw[aO (by simp;omega)];congr 1;rw[jU]
  have hg:∀d,l.getD j d=l[j]:=λd=>by rw[al,av bR];rfl
  rw[hd];simp only[hg,qt];by_cases h:l[j].1=f
  ·rw[zT h,if_pos h,zx7];rfl
  ·rw[zF h,if_neg h,zD,zu (by omega),zmf l hl n hn f m (j+1) k (by omega) (by omega)];rfl
theorem zyq(l:List eY)(hl:l.length<=maxLen)(n:Nat)(hn:n<=l.length)(f:af):Dm l (n:Int) f=some (qt (l.take n) f 0):=by
 rw[zh] at hl;unfold Dm z167;dsimp only;have:=zmf l hl n hn f n 0 bG (by omega) (by rw[zv];omega);rw[show((0:Nat):Int)=(0:Int) from rfl,aN] at this;rw[this,au];unfold H6;by_cases h:qt (l.take n) f 0= -1
 ·rw[if_pos h,h];rfl
 ·rw[if_neg h];rfl
theorem zz0(f:af):∀(l:List eY) (i:Int),0<=i->(0<=qt l f i↔f∈l.map λp=>p.1)
 | [],i,_=>by simp [qt]
 |p::r,i,hi=>by
  simp only[qt,bd,aD];by_cases h:p.1=f
  ·rw[if_pos h];exact⟨λ_=> .inl h.symm,λ_=>hi⟩
  ·rw[if_neg h,zz0 f r (i+1) (by omega)];exact⟨.inr,λh'=>h'.resolve_left (λe=>h e.symm)⟩
theorem zgh(l:List eY)(hl:l.length<=256):∀(m j k:Nat),j+m=l.length->m<k->S3 k l (j:Int)=Eo (qj ((l.take j).map λp=>p.1) (l.drop j) j)
 |m,j,0,_,hk=>by omega
 |0,j,k+1,hj,hk=>by unfold S3 zt2;rw[zF (by omega),aK (by omega)];rfl
 |m+1,j,k+1,hj,hk=>by
  have bR:j<l.length:=by omega
  unfold S3 zt2;have hg:∀d,l.getD j d=l[j]:=λd=>by rw[al,av bR];rfl
  rw[zT (by omega),zC,zi bR,ar,hg,zyq l (by rw[zh];omega) j (by omega),au,aO bR];simp only[qj];have hm:=zz0 l[j].1 (l.take j) 0 (c9 _);by_cases h:l[j].1∈(l.take j).map λp=>p.1
  ·rw[zT (hm.2 h),if_pos h];rfl
  ·rw[zF (λh'=>h (hm.1 h')),if_neg h,zD,zu (by omega),zgh l hl m (j+1) k (by omega) (by omega)];congr 2;rw[jX,av bR,cg];rfl
theorem acT(l:List eY)(h:l.length<=maxLen):HO l=some (zA l):=by
 unfold HO Qk zA;dsimp only;by_cases hl:256<l.length
 ·rw[zT (by omega),zC,if_pos hl]
 ·rw[zF (by omega),zD,if_neg hl];have:=zgh l (by omega) l.length 0 bG (by omega) (by rw[zv];omega);rw[show((0:Nat):Int)=(0:Int) from rfl,cZ,aN] at this;rw[this];unfold Eo;simp only[List.map_nil];cases qj [] l 0<;>rfl
def zr(l:List eY)(f:af):af×Bool:=match l.find? λp=>decide (p.1=f) with
 |some p=>(p.2.1,true)
 |none=>(bs [],false)
theorem zc3(f:af)(l:List eY):∀(i:Int),fD (λi (x:eY) (s:Unit) K=>bif decide (x.1=f) then some (Sum.inl (x.2.1,true)) else K s) (λ_=>some (Sum.inr ())) l i ()=some (match l.find? λp=>decide (p.1=f) with
 |some p=> .inl (p.2.1,true)
 |none=> .inr ()):=by
 induction l with
 |nil=>intro i;rfl
 |cons p r ih=>
  intro i;simp only[fD,dn];by_cases h:p.1=f
  ·rw[zT h];rfl
  ·rw[zF h,zD];exact ih (i+1)
theorem abK(l:List eY)(f:af)(h:l.length<=maxLen):L1 l f=some (zr l f):=by
 unfold L1 Y6 zr;dsimp only;have:=jJ ux l h (λi (x:eY) (s:Unit) K=>bif decide (x.1=f) then some (Sum.inl (x.2.1,true)) else K s) (λ_=>some (Sum.inr ()))
  (λk i s=>TZ k f l (l.length:Int) i) (λk i s=>rfl) ()
 rw[this,zc3];cases l.find? λp=>decide (p.1=f)<;>rfl
theorem zyz(f:af):∀(l:List eY) (i:Int),0<=i->(qt l f i= -1/\l.find? (λp=>decide (p.1=f))=none)\/(i<=qt l f i/\qt l f i<i+l.length/\∃p,l.find? (λp=>decide (p.1=f))=some p/\∀d,l.getD (qt l f i-i).toNat d=p)
 | [],i,_=> .inl ⟨rfl,rfl⟩
 |p::r,i,hi=>by
  simp only[qt,dn,aB];by_cases h:p.1=f
  ·rw[if_pos h,zT h];exact .inr ⟨c9 _,by omega,p,rfl,λd=>by simp⟩
  ·rw[if_neg h,zF h];rcases zyz f r (i+1) (by omega) with⟨h1,h2⟩|⟨h1,h2,q,h3,h4⟩
   ·exact .inl ⟨h1,h2⟩
   ·refine .inr ⟨by omega,by omega,q,h3,λd=> ?_⟩;have:=h4 d;rw[show(qt r f (i+1)-i).toNat=(qt r f (i+1)-(i+1)).toNat+1 by omega,lF];exact this
theorem acR(l:List eY)(f:af)(h:l.length<=maxLen):HN l f=some (zr l f):=by
 unfold HN Qj zr;dsimp only;rw[zyq l h l.length (aZ _),cF,au];rcases zyz f l 0 (c9 _) with⟨h1,h2⟩|⟨h1,h2,p,h3,h4⟩
 ·rw[h1,h2];rfl
 ·rw[zF (by omega),zD,zp h1 (by omega),h3];have:=h4 ((bs []),(bs []),());rw[Int.sub_zero] at this;rw[this]
def mT(l:List eY):List eY:=l.map λp=>(p.2.1,p.1,())
theorem zhs(l:List eY):(mT l).length=l.length:=by simp [mT]
def Gi(l:List eY):Bool:=decide ((zA l).1=0/\(zA (mT l)).1=0)
def sE(c b:Int):Bool:=
 if c=1 then decide (48<=b/\b<=57)
 else if c=2 then decide (65<=b/\b<=90\/97<=b/\b<=122)
 else if c=3 then decide (48<=b/\b<=57\/65<=b/\b<=90\/97<=b/\b<=122)
 else if c=4 then decide (32<=b/\b<=126)
 else decide (c=5\/c=6)
def qW(c:Int):Int:=if c=1 then 1 else if c=2 then 2 else if c=3 then 3 else if c=4 then 7 else if c=5 then 15 else if c=6 then 15 else 0
theorem anj:∀c:Fin 7,∀b:Fin 256,KA (c.1:Int) (b.1:Int)=some (sE (c.1:Int) (b.1:Int)):=by decide+kernel
theorem Sl:∀c:Fin 7,∀b:Fin 256,(HX (b.1:Int)).map (λr=>decide (dv .and .i64 (qW (c.1:Int)) r=0))=some (!sE (c.1:Int) (b.1:Int)):=by decide+kernel
theorem zy2(c:Int):(∃k:Fin 7,c=(k.1:Int))\/(c≠1/\c≠2/\c≠3/\c≠4/\c≠5/\c≠6):=by
 by_cases h:0<=c/\c<=6
 ·exact .inl ⟨⟨c.toNat,by omega⟩,by simp;omega⟩
 ·exact .inr ⟨by omega,by omega,by omega,by omega,by omega,by omega⟩
theorem vr{b:Int}(h:zl b):∃k:Fin 256,b=(k.1:Int):=by unfold zl at h;exact⟨⟨b.toNat,by omega⟩,by simp;omega⟩
theorem aj1(c:Int){b:Int}(hb:zl b):KA c b=some (sE c b):=by
 obtain⟨b,rfl⟩:=vr hb;rcases zy2 c with⟨k,rfl⟩|⟨h1,h2,h3,h4,h5,h6⟩
 ·exact anj k b
 ·unfold KA RV sE;simp only[h1,h2,h3,h4,h5,h6,decide_false,zD,if_false,or_self,Bool.cond_self]
theorem agn(c:Int){b:Int}(hb:zl b):∃r,HX b=some r/\decide (dv .and .i64 (qW c) r=0)= !sE c b:=by
 obtain⟨b,rfl⟩:=vr hb;rcases zy2 c with⟨k,rfl⟩|⟨h1,h2,h3,h4,h5,h6⟩
 ·have:=Sl k b;cases hc:HX (b.1:Int) with
  |none=>rw[hc] at this;cases this
  |some r=>rw[hc] at this;exact⟨r,rfl,by simpa using this⟩
 ·have:=Sl 0 b;cases hc:HX (b.1:Int) with
  |none=>rw[hc] at this;cases this
  |some r=>
   rw[hc] at this;refine⟨r,rfl,?_⟩;have e1:qW c=qW ((0:Fin 7).1:Int):=by unfold qW;simp [h1,h2,h3,h4,h5,h6]
   have e2:sE c (b.1:Int)=sE ((0:Fin 7).1:Int) (b.1:Int):=by unfold sE;simp [h1,h2,h3,h4,h5,h6]
   rw[e1,e2];simpa using this
def yZ(c:Int):List Int->Int->Int
 | [],_=> -1
 |b::r,i=>if sE c b=true then yZ c r (i+1) else i
theorem zmi(c:Int):∀(l:List Int) (i:Int),0<=i->(0<=yZ c l i↔¬l.all (sE c)=true)
 | [],i,_=>by simp [yZ]
 |b::r,i,hi=>by
  simp only[yZ,kd];cases h:sE c b with
  |true=>rw[if_pos rfl,zmi c r (i+1) (by omega),dW]
  |false=>simp [hi]
theorem zro(c:Int)(s:af)(hs:s.size<=9223372036854775807):∀(n j k:Nat),j+n=s.size->n<k->Km k s (qW c) (j:Int)=some (H6 (yZ c ((bl s).drop j) j))
 |n,j,0,_,hk=>by omega
 |0,j,k+1,hj,hk=>by unfold Km TY;rw[zF (by omega),aK (by rw[zg];omega)];rfl
 |n+1,j,k+1,hj,hk=>by
  have bR:j<s.size:=by omega
  have hl:j<(bl s).length:=by rw[zg];exact bR
  have hb:zl ((bl s)[j]):=su (b6 hl);have hg:(bl s).getD j 0=(bl s)[j]:=by rw[al,av hl];rfl
  unfold Km TY;rw[zT (by omega),zC,zi bR,ar,uF,hg,aO hl];obtain⟨r,h1,h2⟩:=agn c hb;rw[h1,au,h2];simp only[yZ];cases h:sE c (bl s)[j] with
  |true=>rw[if_pos rfl,ai,zD,zu (by omega),zro c s hs n (j+1) k (by omega) (by omega)];rfl
  |false=>rw[if_neg (by simp),aY,zC,zx7]
theorem aha(c:Int)(s:af)(h:s.size<=maxLen):LY c s=some (yZ c (bl s) 0):=by
 rw[zh] at h;unfold LY YR;dsimp only;rw[YC,au];have:=zro c s h s.size 0 bG (by omega) (by rw[zv];omega);rw[show((0:Nat):Int)=(0:Int) from rfl,aN] at this;rw[show(if c=1 then 1 else if c=2 then 2 else if c=3 then 3 else if c=4 then 7 else if c=5 then 15 else if c=6 then 15 else 0:Int)=qW c from rfl,this,au];unfold H6;by_cases h:yZ c (bl s) 0= -1
 ·rw[if_pos h,h];rfl
 ·rw[if_neg h];rfl
theorem zgw(c:Int)(s:af)(hs:s.size<=9223372036854775807):∀(n j k:Nat),j+n=s.size->n<k->T9 k c s (j:Int)=some (H6 (yZ c ((bl s).drop j) j))
 |n,j,0,_,hk=>by omega
 |0,j,k+1,hj,hk=>by unfold T9 Jt;rw[zF (by omega),aK (by rw[zg];omega)];rfl
 |n+1,j,k+1,hj,hk=>by
  have bR:j<s.size:=by omega
  have hl:j<(bl s).length:=by rw[zg];exact bR
  have hb:zl ((bl s)[j]):=su (b6 hl);have hg:(bl s).getD j 0=(bl s)[j]:=by rw[al,av hl];rfl
  unfold T9 Jt;rw[zT (by omega),zC,zi bR,ar,uF,hg,aO hl,aj1 c hb,au];simp only[yZ];cases h:sE c (bl s)[j] with
  |true=>rw[if_pos rfl,ai,zD,zu (by omega),zgw c s hs n (j+1) k (by omega) (by omega)];rfl
  |false=>rw[if_neg (by simp),aY,zC,zx7]
theorem zci(c:Int)(s:af)(h:s.size<=maxLen):Q75 c s=some (yZ c (bl s) 0):=by
 rw[zh] at h;unfold Q75 RU;dsimp only;have:=zgw c s h s.size 0 bG (by omega) (by rw[zv];omega);rw[show((0:Nat):Int)=(0:Int) from rfl,aN] at this;rw[this,au];unfold H6;by_cases h:yZ c (bl s) 0= -1
 ·rw[if_pos h,h];rfl
 ·rw[if_neg h];rfl
def FB(a b:Int):Bool:=decide (1<=a/\a<=6/\1<=b/\b<=6)&&decide (dv .andNot .i64 (qW b) (qW a)=0)
theorem aij(a b:Int):LZ a b=some (FB a b):=by
 unfold LZ YV FB;rw[zn3,au];by_cases ha:1<=a/\a<=6
 ·rw[zT ha,zC,zn3,au];by_cases hb:1<=b/\b<=6
  ·rw[zT hb,zC,YC,au,YC,au,zT (show 1<=a/\a<=6/\1<=b/\b<=6 from⟨ha.1,ha.2,hb.1,hb.2⟩),dW];rfl
  ·rw[zF hb,zD,zF (λh=>hb h.2.2)];rfl
 ·rw[zF ha,zD,zF (λh=>ha ⟨h.1,h.2.1⟩)];rfl
theorem ag3:∀a b:Fin 7,Uw (a.1:Int) (b.1:Int)=some (FB (a.1:Int) (b.1:Int)):=by decide+kernel
theorem Z7{c:Int}(h:1<=c/\c<=6):∃k:Fin 7,c=(k.1:Int):=⟨⟨c.toNat,by omega⟩,by simp;omega⟩
theorem zcn(a b:Int):Uw a b=some (FB a b):=by
 by_cases h:(1<=a/\a<=6)/\(1<=b/\b<=6)
 ·obtain⟨k,rfl⟩:=Z7 h.1;obtain⟨m,rfl⟩:=Z7 h.2;exact ag3 k m
 ·unfold Uw RX FB;rw[show decide (1<=a/\a<=6/\1<=b/\b<=6)=false from zF (λh'=>h ⟨⟨h'.1,h'.2.1⟩,h'.2.2⟩),Bool.false_and];by_cases h1:a<1
  ·rw[zT h1];rfl
  ·by_cases h2:(6:Int)<a
   ·rw[zF h1,zT h2];rfl
   ·by_cases h3:b<1
    ·rw[zF h1,zF h2,zT h3];rfl
    ·have h4:(6:Int)<b:=by omega
     rw[zF h1,zF h2,zF h3,zT h4];rfl
theorem z28(s:af)(i:Nat):zl (ze s i):=by rw[uF];exact JT (λx hx=>su hx) i
theorem zys:∀b:Fin 256,xp (b.1:Int)=some (decide (KB (b.1:Int)≠some 0)):=by decide+kernel
theorem zd4:∀b:Fin 256,KB (b.1:Int)=some 0\/(KB (b.1:Int)=some 1/\decide (dv .and .i64 (b.1:Int) 31=31)=false)\/(KB (b.1:Int)=some 2/\decide (dv .and .i64 (b.1:Int) 31=31)=true):=by decide+kernel
theorem am6(x y:Nat)(hx:x<256)(hy:y<256):dv .and .i64 (((x:Int)*256)+(y:Int)) 255=(y:Int):=by
 have:((x:Int)*256+(y:Int))=((x*256+y:Nat):Int):=by omega
 rw[this,show(255:Int)=((255:Nat):Int) from rfl,alq (by omega) (by omega)];congr 1;rw[show(255:Nat)=2^8-1 from rfl,ij];omega
theorem abJ(x y:Nat)(hx:x<256)(hy:y<256):aX ((x:Int)*256+(y:Int)) (2^min ((8:Int)).toNat 64)=(x:Int):=by
 have:((x:Int)*256+(y:Int))=((x*256+y:Nat):Int):=by omega
 rw[this,show(8:Int)=((8:Nat):Int) from rfl,SW _ 8 (by omega)];congr 1;omega
theorem agB(x:Fin 256)(hx:KB (x.1:Int)=some 2)(y:Fin 256):BL ((x.1:Int)*256+(y.1:Int))=some (decide (1<=(y.1:Int)/\(y.1:Int)<=127)):=by
 have hx0:x.1≠0:=λe=>by have:x=0:=Fin.ext e;subst this;revert hx;decide+kernel
 have H9:decide (dv .and .i64 (x.1:Int) 31=31)=true:=by
  rcases zd4 x with h|⟨h,_⟩|⟨_,h⟩
  ·rw[h] at hx;cases hx
  ·rw[h] at hx;cases hx
  ·exact h
 have hf:xp (x.1:Int)=some true:=by rw[zys x,hx];rfl
 unfold BL XZ;rw[abJ x.1 y.1 x.2 y.2,am6 x.1 y.1 x.2 y.2,zF (by have:=x.2;have:=y.2;omega),zD,zT (by have:=x.2;have:=y.2;omega),zC,hf,au,zC,H9,zC];by_cases h1:(1:Int)<=(y.1:Int)
 ·rw[zT h1,zC];congr 1;exact decide_eq_decide.2 ⟨λh=>⟨h1,h⟩,λh=>h.2⟩
 ·rw[zF h1,zD];congr 1;exact(zF λh=>h1 h.1).symm
theorem agO(s:af)(hs:s.size<=9223372036854775000)(a:Int):BK s a=KC s a:=by
 unfold BK XY KC Jv;by_cases h1:a<0
 ·rw[zT h1];rfl
 rw[zF h1,zD,zD];by_cases h2:(s.size:Int)<a
 ·rw[zT h2];rfl
 rw[zF h2,zD,zD];by_cases h3:a=(s.size:Int)
 ·rw[zT h3];rfl
 have wa:∀{R:Type} (x:ae R),zd a s.size x=x:=λx=>zp (by omega) (by omega);rw[zF h3,zD,zD];simp only[wa];obtain⟨x,hx⟩:=vr (z28 s a.toNat);obtain⟨y,hy⟩:=vr (z28 s (zW zI (a+1)).toNat);have yN:=x.2;have UW:=y.2;have ob:=zoc (z28 s a.toNat) (z28 s (zW zI (a+1)).toNat);rw[hx,hy] at ob;have w1:zW zI (a+1)=a+1:=zj (by omega) (by omega);have w2:zW zI (x.1:Int)=(x.1:Int):=zj (by omega) (by omega);have w3:zW zI (y.1:Int)=(y.1:Int):=zj (by omega) (by omega);have w4:zW zI ((s.size:Int)-a)=(s.size:Int)-a:=zj (by omega) (by omega);rw[hx,hy,w2,zys x,au];rw[w2] at ob;rcases zd4 x with h|⟨h,H9⟩|⟨h,H9⟩
 ·rw[h];rfl
 ·rw[h,au,H9];rfl
 ·rw[h,au,H9,ob,agB x h y,au,w1,w4,w3];by_cases h4:a+1=(s.size:Int)
  ·rw[zT h4,zT (by omega:(s.size:Int)-a<2)];rfl
  ·have w5:zW zI (256*(x.1:Int))=256*(x.1:Int):=zj (by omega) (by omega);have w6:zW zI (256*(x.1:Int)+(y.1:Int))=(x.1:Int)*256+(y.1:Int):=by rw[zj (by omega) (by omega)];omega
   rw[zF h4,zF (by omega:¬(s.size:Int)-a<2),w5,w6];have wb:∀{R:Type} (x:ae R),zd (a+1) s.size x=x:=λx=>zp (by omega) (by omega);simp only[wb];by_cases h5:(y.1:Int)=0
   ·rw[zT h5,zF (by omega:¬(1<=(y.1:Int)/\(y.1:Int)<=127))];rfl
   ·by_cases h6:(127:Int)<(y.1:Int)
    ·rw[zF h5,zT h6,zF (by omega:¬(1<=(y.1:Int)/\(y.1:Int)<=127))];rfl
    ·rw[zF h5,zF h6,zT (by omega:1<=(y.1:Int)/\(y.1:Int)<=127)];rfl
def kD(b:Int):Int:=if 48<=b/\b<=57 then b-48 else if 65<=b/\b<=70 then b-55 else-1
def qK(d:Int):Int:=if d<10 then 48+d else 55+d
def nk:List Int->List Int
 | []=>[]
 |x::r=>qK (x/16)::qK (x % 16)::nk r
def om:List Int->List Int
 |a::b::r=>(16*kD a+kD b)::om r
 |_=>[]
def qd:List Int->Int->ae Int
 | [],_=>none
 |a::r,i=>if kD a<0 then some i else qd r (i+1)
def vz(s:af):af×Int×Bool:=match qd (bl s) 0 with
 |some i=>(bs [],i,false)
 |none=>if s.size % 2=1 then(bs [],(s.size:Int),false) else(strOf (om (bl s)),0,true)
def AK(s:af):af:=strOf (nk (bl s))
abbrev Ur:af:=bs [48,49,50,51,52,53,54,55,56,57,65,66,67,68,69,70]
theorem anb:∀b:Fin 256,Bk (b.1:Int)=some (if kD (b.1:Int)<0 then((0:Int),false) else(kD (b.1:Int),true)):=by decide+kernel
theorem ai2:∀b:Fin 256,kD (b.1:Int)<16/\(kD (b.1:Int)<0\/0<=kD (b.1:Int)):=by decide+kernel
theorem YB:∀b:Fin 256,aX (b.1:Int) (2^min ((4:Int)).toNat 8)=((b.1/16:Nat):Int)/\dv .and .u8 (b.1:Int) (15:Int)=((b.1 % 16:Nat):Int)/\zW zU (dc (b.1:Int) (16:Int))=((b.1/16:Nat):Int)/\cB (b.1:Int) (16:Int)=((b.1 % 16:Nat):Int):=by decide+kernel
theorem Rj:∀d:Fin 16,ze Ur d.1=qK (d.1:Int):=by decide+kernel
theorem ai1:∀a b:Fin 16,zW zU (dv .or .i64 (zW zI ((a.1:Int)*2^min ((4:Int)).toNat 64)) (b.1:Int))=16*(a.1:Int)+(b.1:Int)/\zW zU (zW zI (zW zI ((16:Int)*(a.1:Int))+(b.1:Int)))=16*(a.1:Int)+(b.1:Int):=by decide+kernel
theorem aap{x y:Int}(h1:0<=x)(h2:x<16)(h3:0<=y)(h4:y<16):zW zU (dv .or .i64 (zW zI (x*2^min ((4:Int)).toNat 64)) y)=16*x+y/\zW zU (zW zI (zW zI ((16:Int)*x)+y))=16*x+y:=by have:=ai1 ⟨x.toNat,by omega⟩ ⟨y.toNat,by omega⟩;simpa [cD h1,cD h3] using this
theorem zx8{b:Int}(h:zl b):kD b<16:=by obtain⟨k,rfl⟩:=vr h;exact(ai2 k).1
theorem aiJ{b:Int}(h:zl b):Bk b=some (if kD b<0 then((0:Int),false) else(kD b,true)):=by obtain⟨k,rfl⟩:=vr h;exact anb k
theorem O2:Ur.size=16:=by decide
theorem nib{b:Int}(h:zl b):∃k:Fin 256,b=(k.1:Int)/\ze Ur (b.toNat/16)=qK (b/16)/\ze Ur (b.toNat % 16)=qK (b % 16):=by obtain⟨k,rfl⟩:=vr h;have h1:=Rj ⟨k.1/16,by omega⟩;have h2:=Rj ⟨k.1 % 16,by omega⟩;exact⟨k,rfl,by simpa using h1,by simpa using h2⟩
theorem TP{s:af}{j:Nat}(h:j<(bl s).length):ze s j=(bl s)[j]:=by rw[uF,al,av h];rfl
theorem zmm(s:af)(hs:s.size<=1099511627776):∀(n j k:Nat) (o:List Int),j+n=s.size->n<k->o.length+2*n<=35184372088832->Ka k s o (j:Int)=some (o++nk ((bl s).drop j))
 |n,j,0,o,_,hk,_=>by omega
 |0,j,k+1,o,hj,hk,_=>by unfold Ka Tj;rw[zF (by omega),zD,aK (by rw[zg];omega),nk,bM]
 |n+1,j,k+1,o,hj,hk,ho=>by
  have bR:j<s.size:=by omega
  have hl:j<(bl s).length:=by rw[zg];exact bR
  obtain⟨b,hb,n1,n2⟩:=nib (su (b6 hl));have tA:=b.2;unfold Ka Tj;rw[zT (by omega),zC];simp only[ar,TP hl,hb,(YB b).1,(YB b).2.1];rw[zi bR,zi (by rw[O2];omega),zi bR,zi (by rw[O2];omega),zT (by simp only[aB,cM];omega),zC];rw[hb] at n1 n2;simp only[ar] at n1 n2;rw[n1,n2,zu (by omega),zmm s hs n (j+1) k _ (by omega) (by omega) (by rw[aF];simp only[aB,cM];omega),aO hl,hb,nk,aQ];rfl
theorem zrw(s:af)(hs:s.size<=1099511627776):sM s=some (AK s):=by unfold sM WB;rw[zj (by omega) (by omega),zT (by omega),zC,zT (by omega),zC];have:=zmm s hs s.size 0 bG [] (by omega) (by rw[zv];omega) (by simp;omega);rw[show((0:Nat):Int)=0 from rfl,aN,bD] at this;dsimp only;rw[this];rfl
def tM:List Int->Nat->List Int->Int->Sum Int (List Int)
 | [],_,o,_=> .inr o
 |a::r,i,o,high=>if kD a<0 then .inl i else if i % 2=0 then tM r (i+1) o (kD a) else tM r (i+1) (o++ [16*high+kD a]) high
theorem Rb:∀(l:List Int) (i:Nat) (o:List Int) (high:Int),i % 2=0->tM l i o high=(match qd l i with
 |some q=> .inl q
 |none=> .inr (o++om l))
 | [],i,o,high,h=>by simp [tM,qd,om]
 | [a],i,o,high,h=>by
   rw[tM,qd];by_cases ha:kD a<0
   ·rw[if_pos ha,if_pos ha]
   ·rw[if_neg ha,if_neg ha,if_pos h];simp [tM,qd,om]
 |a::b::r,i,o,high,h=>by
  rw[tM,qd];by_cases ha:kD a<0
  ·rw[if_pos ha,if_pos ha]
  ·rw[if_neg ha,if_neg ha,if_pos h,tM,qd];by_cases hb:kD b<0
   ·rw[if_pos hb,if_pos hb];rfl
   ·rw[if_neg hb,if_neg hb,if_neg (by omega),Rb r (i+1+1) _ _ (by omega),om,aQ];have:((i:Int)+1+1)=((i+1+1:Nat):Int):=by omega
    rw[this];rfl
theorem Lj(j:Nat):cB (j:Int) (2:Int)=((j % 2:Nat):Int):=rfl
theorem zai(s:af)(hs:s.size<=1099511627776):∀(n j k:Nat) (o:List Int) (high:Int),j+n=s.size->n<k->o.length+n<=35184372088832->0<=high/\high<16->∃o',J9 k s o high (j:Int)=some (match tM ((bl s).drop j) j o high with
 | .inl i=> .inl (s,bs [],i,false,o')
 | .inr r=> .inr (s,r))
 |n,j,0,o,high,_,hk,_,_=>by omega
 |0,j,k+1,o,high,hj,hk,_,_=>by unfold J9 Ti;rw[zF (by omega),zD,aK (by rw[zg];omega)];exact⟨o,rfl⟩
 |n+1,j,k+1,o,high,hj,hk,ho,hh=>by
  have bR:j<s.size:=by omega
  have hl:j<(bl s).length:=by rw[zg];exact bR
  have hb:=su (b6 hl);have h16:=zx8 hb;unfold J9 Ti;rw[zT (by omega),zC,zi bR,ar,TP hl,aiJ hb,zc,aO hl,tM];by_cases ha:kD (bl s)[j]<0
  ·rw[if_pos ha,if_pos ha];exact⟨o,rfl⟩
  ·rw[if_neg ha,if_neg ha];dsimp only;rw[ai,zD,Lj];by_cases hp:j % 2=0
   ·rw[if_pos hp,zT (by omega),zC,zu (by omega)];exact zai s hs n (j+1) k o _ (by omega) (by omega) (by omega) (by omega)
   ·rw[if_neg hp,zF (by omega),zD,zT (by simp only[cr];omega),zC,zu (by omega),(aap hh.1 hh.2 (by omega) h16).1];exact zai s hs n (j+1) k _ high (by omega) (by omega) (by rw[aF,cr];omega) hh
theorem zrv(s:af)(hs:s.size<=1099511627776):qb s=some (vz s):=by
 unfold qb Wy vz;have e:dc (s.size:Int) 2=((s.size/2:Nat):Int):=rfl;rw[e,zj (by omega) (by omega),zT (by omega),zC,zT (by omega),zC];obtain⟨o',h⟩:=zai s hs s.size 0 bG [] 0 (by omega) (by rw[zv];omega) (by simp;omega) (by omega);rw[show((0:Nat):Int)=0 from rfl,aN,Rb _ 0 _ _ rfl,bD,show((0:Nat):Int)=0 from rfl] at h;dsimp only;rw[h,zc];cases qd (bl s) 0 with
 |some i=>rfl
 |none=>
  dsimp only;rw[cj];unfold Wz;dsimp only;rw[Lj];by_cases hp:s.size % 2=1
  ·rw[if_pos hp,zF (by omega)];rfl
  ·rw[if_neg hp,zT (by omega)];rfl
theorem afi{l:List Int}:∀{i:Int},qd l i=none->∀a∈l,0<=kD a:=by
 induction l with
 |nil=>intro i _ a ha;cases ha
 |cons b r ih=>
  intro i h a ha;rw[qd] at h;by_cases hb:kD b<0
  ·rw[if_pos hb] at h;cases h
  ·rw[if_neg hb] at h;rcases aD.1 ha with rfl|ha
   ·omega
   ·exact ih h a ha
theorem ai4:∀d:Fin 16,kD (qK (d.1:Int))=(d.1:Int)/\zl (qK (d.1:Int)):=by
 have:∀d:Fin 16,kD (qK (d.1:Int))=(d.1:Int)/\0<=qK (d.1:Int)/\qK (d.1:Int)<256:=by decide+kernel
 exact this
theorem Lz{d:Int}(h:0<=d)(h2:d<16):kD (qK d)=d/\zl (qK d):=by have:=ai4 ⟨d.toNat,by omega⟩;simpa [cD h] using this
theorem zyw:∀{l:List Int},(∀x∈l,zl x)->∀y∈nk l,zl y
 | [],_,y,hy=>by cases hy
 |x::r,h,y,hy=>by
  have hx:=h x aM;unfold zl at hx;rw[nk] at hy;rcases aD.1 hy with rfl|hy
  ·exact(Lz (by omega) (by omega)).2
  ·rcases aD.1 hy with rfl|hy
   ·exact(Lz (by omega) (by omega)).2
   ·exact zyw (λz hz=>h z (aE _ hz)) y hy
theorem PA:∀l:List Int,(nk l).length=2*l.length
 | []=>rfl
 |x::r=>by rw[nk,aB,aB,PA r,aB];omega
theorem zyx:∀{l:List Int} {i:Int},(∀x∈l,zl x)->qd (nk l) i=none
 | [],i,_=>rfl
 |x::r,i,h=>by have hx:=h x aM;unfold zl at hx;rw[nk,qd,if_neg (by rw[(Lz (by omega) (by omega)).1];omega),qd,if_neg (by rw[(Lz (by omega) (by omega)).1];omega)];exact zyx λz hz=>h z (aE _ hz)
theorem Gx:∀{l:List Int},(∀x∈l,zl x)->om (nk l)=l
 | [],_=>by simp [nk,om]
 |x::r,h=>by have hx:=h x aM;unfold zl at hx;rw[nk,om,(Lz (by omega) (by omega)).1,(Lz (by omega) (by omega)).1,Gx λz hz=>h z (aE _ hz)];congr 1;omega
theorem zyy(s:af):bl (AK s)=nk (bl s):=wO (zyw λx hx=>su hx)
theorem Sx(s:af):(AK s).size=2*s.size:=by rw[<-zg,zyy,PA,zg]
theorem z138(s:af):vz (AK s)=(s,0,true):=by unfold vz;rw[zyy,zyx (λx hx=>su hx),Gx (λx hx=>su hx),CU,Sx];dsimp only;rw[if_neg (by omega)]
theorem ai3:∀b:Fin 256,0<=kD (b.1:Int)->qK (kD (b.1:Int))=(b.1:Int):=by decide+kernel
theorem zyv{b:Int}(h:zl b)(h0:0<=kD b):qK (kD b)=b:=by obtain⟨k,rfl⟩:=vr h;exact ai3 k h0
theorem Gy:∀{l:List Int},l.length % 2=0->(∀x∈l,zl x/\0<=kD x)->nk (om l)=l/\∀y∈om l,zl y
 | [],_,_=>⟨by simp [nk,om],λy hy=>by simp [om] at hy⟩
 | [a],h,_=>by simp at h
 |a::b::r,h,hx=>by
  obtain⟨a1,a2⟩:=hx a (by simp);obtain⟨b1,b2⟩:=hx b (by simp);have a3:=zx8 a1;have b3:=zx8 b1;obtain⟨i1,i2⟩:=Gy (l:=r) (by simp only[aB] at h;omega) λy hy=>hx y (by simp [hy]);rw[om,nk];refine⟨?_,λy hy=> ?_⟩
  ·rw[show(16*kD a+kD b)/16=kD a by omega,show(16*kD a+kD b)% 16=kD b by omega,zyv a1 a2,zyv b1 b2,i1]
  ·rcases aD.1 hy with rfl|hy
   ·unfold zl;omega
   ·exact i2 y hy
theorem zh0{s t:af}{i:Int}(h:vz s=(t,i,true)):AK t=s/\s.size=2*t.size:=by
 unfold vz at h;cases hb:qd (bl s) 0 with
 |some q=>rw[hb] at h;cases h
 |none=>
  rw[hb] at h;dsimp only at h;by_cases hp:s.size % 2=1
  ·rw[if_pos hp] at h;cases h
  ·rw[if_neg hp] at h;have ht:t=strOf (om (bl s)):=(congrArg Prod.fst h).symm;obtain⟨e1,e2⟩:=Gy (l:=bl s) (by rw[zg];omega) λx hx=>⟨su hx,afi hb x hx⟩
   have e3:AK t=s:=by unfold AK;rw[ht,wO e2,e1,CU]
   exact⟨e3,by rw[<-e3,Sx]⟩
def jZ(b:Int):Bool:=decide (48<=b/\b<=57)
def eJ(l:List Int):Bool:=l.all jZ
theorem zg1(b:Int)(l:List Int):eJ (b::l)=(jZ b&&eJ l):=rfl
theorem Rh{b:Int}(h:48<=b/\b<=57):jZ b=true:=zT h
theorem zxa{b:Int}(h:¬(48<=b/\b<=57)):jZ b=false:=zF h
theorem Uc{s:af}{j:Nat}(h:j<s.size):(bl s).getD j 0=((s[j]'h).toNat:Int):=by rw[<-uF];unfold ze;rw[dif_pos h]
theorem Yt{s:af}{j:Nat}(h:j<s.size):(bl s).drop j=((s[j]'h).toNat:Int)::(bl s).drop (j+1):=by
 have h':j<(bl s).length:=by rw[zg];exact h
 rw[aO h'];congr 1;have:=Uc h;rw[al,av h'] at this;exact this
theorem z156(s:af)(pos:Nat)(h:pos<s.size)(ha:128<=(s[pos]'h).toNat):128<=(dw s pos).1:=by
 have e:s.get! (pos+0)=s[pos]'h:=by show s.get! pos=_;simp [ByteArray.get!,getElem!_pos,h];rfl
 unfold dw;simp only[e];rw[if_neg (by omega)];have UQ:128<=Utf8.runeError:=by unfold Utf8.runeError;omega
 split
 ·split
  ·assumption
  ·exact UQ
 ·split
  ·split
   ·rename_i hc;simp only[ap,decide_eq_true_eq] at hc;have:=hc.1;simp only;omega
   ·exact UQ
  ·split
   ·split
    ·rename_i hc;simp only[ap,decide_eq_true_eq] at hc;have:=hc.1;simp only;omega
    ·exact UQ
   ·exact UQ
theorem Pa(s:af):∀(n j k:Nat),s.size-j<=n->j<=s.size->n<k->LG k (s,j)=some (bif eJ ((bl s).drop j) then .inr () else .inl false)
 |n,j,0,_,_,hk=>by omega
 |n,j,k+1,hn,hj,hk=>by
  unfold LG Zr;dsimp only;by_cases bR:j<s.size
  ·rw[zT bR,zC,Yt bR,zg1];by_cases h1:(s[j]'bR).toNat<128
   ·rw[decode_ascii s j bR h1];dsimp only;by_cases h2:((s[j]'bR).toNat:Int)<48
    ·rw[zT h2,zC,zxa (by omega)];rfl
    ·rw[zF h2,zD];by_cases h3:(57:Int)<((s[j]'bR).toNat:Int)
     ·rw[zT h3,zC,zxa (by omega)];rfl
     ·obtain⟨n,rfl⟩:∃n',n=n'+1:=⟨n-1,by omega⟩
      rw[zF h3,zD,Rh (by omega),dW,Pa s n (j+1) k (by omega) (by omega) (by omega)]
   ·have hd:=z156 s j bR (by omega);rw[zF (by omega:¬((dw s j).1:Int)<48),zD,zT (by omega:(57:Int)<((dw s j).1:Int)),zC,zxa (by omega)];rfl
  ·rw[zF bR,zD,aK (by rw[zg];omega)];rfl
theorem YF(s:af)(h:s.size<=maxLen):FI s=some (eJ (bl s)):=by unfold FI Zq;dsimp only;rw[zh] at h;rw[Pa s s.size 0 bG (by omega) (by omega) (by rw[zv];omega),aN];cases eJ (bl s)<;>rfl
theorem acW(b:Int):Q65 b=some (jZ b):=by
 unfold Q65 RR jZ;by_cases h:(48:Int)<=b
 ·rw[zT h,zC];congr 1;apply decide_eq_decide.2;omega
 ·rw[zF h,zD];congr 1;symm;apply zF;omega
theorem zr6(s:af)(hs:s.size<=9223372036854775807):∀(n j k:Nat),s.size-j<=n->j<=s.size->n<k->ZX k s (j:Int)=some (bif eJ ((bl s).drop j) then .inr () else .inl false)
 |n,j,0,_,_,hk=>by omega
 |n,j,k+1,hn,hj,hk=>by
  unfold ZX RQ;dsimp only;by_cases bR:j<s.size
  ·rw[zT (by omega),zC,zi bR,acW,ar,uF,Uc bR,Yt bR,zg1];rw[au];cases h1:jZ ((s[j]'bR).toNat:Int) with
   |false=>rfl
   |true=>
    obtain⟨n,rfl⟩:∃n',n=n'+1:=⟨n-1,by omega⟩
    simp only[ai,zD,dW];rw[zu (by omega),zr6 s hs n (j+1) k (by omega) (by omega) (by omega)]
  ·rw[zF (by omega),zD,aK (by rw[zg];omega)];rfl
theorem O0(s:af)(h:s.size<=maxLen):Uv s=some (eJ (bl s)):=by unfold Uv RP;dsimp only;rw[zh] at h;have:=zr6 s h s.size 0 bG (by omega) (by omega) (by rw[zv];omega);rw[show((0:Nat):Int)=(0:Int) from rfl] at this;rw[this,aN];cases eJ (bl s)<;>rfl
def nV(l:List Int)(n:Int):Int:=l.foldl (λn b=>10*n+(b-48)) n
theorem zss:∀(l:List Int) (n:Int) (k:Nat),eJ l=true->0<=n->n<((10^k:Nat):Int)->l.length+k<=18->0<=nV l n/\nV l n<((10^(l.length+k):Nat):Int)
 | [],n,k,_,h1,h2,_=>by simpa [nV] using⟨h1,h2⟩
 |b::l,n,k,hd,h1,h2,hl=>by
  simp only[eJ,kd,ap,jZ,decide_eq_true_eq] at hd;have hp:((10^(k+1):Nat):Int)=10*((10^k:Nat):Int):=by rw[ju];omega
  have:=zss l (10*n+(b-48)) (k+1) hd.2 (by omega) (by rw[hp];omega) (by simp at hl;omega);simp only[nV,cm,aB] at this⊢;rw[show l.length+1+k=l.length+(k+1) by omega];exact this
theorem G7{k m:Nat}(h:k<=m):10^k<=10^m:=cS (by decide) h
theorem Sq(k:Nat):((10^(k+1):Nat):Int)=10*((10^k:Nat):Int):=by rw[ju];omega
theorem G8:(10:Nat)^17=100000000000000000:=by decide
theorem Px(s:af)(hs:s.size<=18)(hd:eJ (bl s)=true):∀(n j k:Nat) (t:Int),s.size-j<=n->j<=s.size->n<k->0<=t->t<((10^j:Nat):Int)->LH k t (s,j)=some (nV ((bl s).drop j) t)
 |n,j,0,t,_,_,hk,_,_=>by omega
 |n,j,k+1,t,hn,hj,hk,h0,h1=>by
  unfold LH Zu;dsimp only;by_cases bR:j<s.size
  ·have GG:jZ ((s[j]'bR).toNat:Int)=true:=by
    have:=aR.1 hd ((bl s).getD j 0) (by rw[al,av (by rw[zg];exact bR)];exact b6 _)
    rw[Uc bR] at this;exact this
   simp only[jZ,decide_eq_true_eq] at GG;rw[zT bR,zC,decode_ascii s j bR (by omega),Yt bR];dsimp only;have N4:=Sq j;have w32:IntKind.i32.wrap (((s[j]'bR).toNat:Int)-48)=((s[j]'bR).toNat:Int)-48:=by simp [kF,jC,gY];omega
   obtain⟨n,rfl⟩:∃n',n=n'+1:=⟨n-1,by omega⟩
   have ht:t<100000000000000000:=by have:=G7 (show j<=17 by omega);rw[G8] at this;omega
   have a1:zW zI (10*t)=10*t:=zj (by omega) (by omega);have a2:zW zI (((s[j]'bR).toNat:Int)-48)=((s[j]'bR).toNat:Int)-48:=zj (by omega) (by omega);rw[w32,a1,a2,zj (by omega) (by omega),Px s hs hd n (j+1) k _ (by omega) (by omega) (by omega) (by omega) (by omega)];rfl
  ·rw[zF bR,zD,aK (by rw[zg];omega)];rfl
def mD(l:List Int):Int×Bool:=if 1<=l.length/\l.length<=18/\eJ l=true then(nV l 0,true) else(0,false)
theorem RB(s:af)(h:s.size<=maxLen):FJ s=some (mD (bl s)):=by
 unfold FJ Zt mD;dsimp only;rw[zg];by_cases h0:s=bs []
 ·rw[zT h0,zC,if_neg];rw[h0];intro hh;have:(bs []).size=0:=rfl;omega
 ·have hz:s.size≠0:=λe=>h0 (zct.2 (bp (by rw[zg];exact e)));rw[zF h0,zD];by_cases h1:(18:Int)<(s.size:Int)
  ·rw[zT h1,zC,if_neg (by omega)]
  ·rw[zF h1,zD,YF s h,au];cases hd:eJ (bl s) with
   |false=>rw[if_neg (by simp)];rfl
   |true=>rw[if_pos ⟨by omega,by omega,rfl⟩];simp only[ai,zD];rw[Px s (by omega) hd s.size 0 bG 0 (by omega) (by omega) (by rw[zv];omega) (by omega) (by decide),aN,au];rfl
theorem zrs(s:af)(hs:s.size<=18)(hd:eJ (bl s)=true):∀(n j k:Nat) (t:Int),s.size-j<=n->j<=s.size->n<k->0<=t->t<((10^j:Nat):Int)->ZY k s t (j:Int)=some (nV ((bl s).drop j) t)
 |n,j,0,t,_,_,hk,_,_=>by omega
 |n,j,k+1,t,hn,hj,hk,h0,h1=>by
  unfold ZY RT;dsimp only;by_cases bR:j<s.size
  ·have GG:jZ ((s[j]'bR).toNat:Int)=true:=by
    have:=aR.1 hd ((bl s).getD j 0) (by rw[al,av (by rw[zg];exact bR)];exact b6 _)
    rw[Uc bR] at this;exact this
   simp only[jZ,decide_eq_true_eq] at GG;rw[zT (by omega),zC,zi bR,ar,uF,Uc bR,Yt bR];have N4:=Sq j;obtain⟨n,rfl⟩:∃n',n=n'+1:=⟨n-1,by omega⟩
   have ht:t<100000000000000000:=by have:=G7 (show j<=17 by omega);rw[G8] at this;omega
   have a1:zW zI (10*t)=10*t:=zj (by omega) (by omega);have a2:zW zI ((s[j]'bR).toNat:Int)=((s[j]'bR).toNat:Int):=zj (by omega) (by omega);have a3:zW zI (10*t+((s[j]'bR).toNat:Int))=10*t+((s[j]'bR).toNat:Int):=zj (by omega) (by omega);rw[a1,a2,a3,zj (by omega) (by omega),zu (by omega),zrs s hs hd n (j+1) k _ (by omega) (by omega) (by omega) (by omega) (by omega)];simp only[nV,cm];congr 2;omega
  ·rw[zF (by omega),zD,aK (by rw[zg];omega)];rfl
theorem ahb(s:af)(h:s.size<=maxLen):Q66 s=some (mD (bl s)):=by
 unfold Q66 RS mD;dsimp only;rw[zg];by_cases h0:(s.size:Int)<1
 ·rw[zT h0,zC,if_neg (by omega)]
 ·rw[zF h0,zD];by_cases h1:(18:Int)<(s.size:Int)
  ·rw[zT h1,zC,if_neg (by omega)]
  ·rw[zF h1,zD,O0 s h,au];cases hd:eJ (bl s) with
   |false=>rw[if_neg (by simp)];rfl
   |true=>rw[if_pos ⟨by omega,by omega,rfl⟩];simp only[ai,zD];have:=zrs s (by omega) hd s.size 0 bG 0 (by omega) (by omega) (by rw[zv];omega) (by omega) (by decide);rw[show((0:Nat):Int)=(0:Int) from rfl] at this;rw[this,aN,au];rfl
def wR:Nat->Nat->List Int
 |0,_=>[]
 |w+1,n=>wR w (n/10)++ [((48+n % 10:Nat):Int)]
theorem SC:∀w n,(wR w n).length=w
 |0,_=>rfl
 |w+1,n=>by rw[wR,aF,SC w];rfl
theorem Ys:∀w n,eJ (wR w n)=true
 |0,_=>rfl
 |w+1,n=>by rw[wR,eJ,jj,ap];refine⟨Ys w _,?_⟩;rw[kd,List.all_nil,eU];exact Rh (by omega)
theorem SU{l:List Int}(h:eJ l=true):∀x∈l,zl x:=λx hx=>by have:=aR.1 h x hx;simp only[jZ,decide_eq_true_eq] at this;unfold zl;omega
theorem acj(a b:List Int):strOf (a++b)=strOf a++strOf b:=by apply j5;simp [strOf,fM]
theorem anr(n:Nat):cB (n:Int) 10=((n % 10:Nat):Int):=by rw[dS (by omega)];omega
theorem anq(n:Nat):dc (n:Int) 10=((n/10:Nat):Int):=by rw[js (by omega)];omega
theorem aiI(n:Nat):zW zU (zW zI ((48:Int)+((n % 10:Nat):Int)))=((48+n % 10:Nat):Int):=by rw[zj (by omega) (by omega),CO (by omega) (by omega)];omega
theorem zx3(n w:Nat):n/10/10^w=n/10^(w+1):=by rw[kz,ju,Nat.mul_comm]
theorem ot(x:Int)(tail:List Int):∀j,(aw (j+1) (0:Int)++tail).set j x=aw j 0++x::tail
 |0=>rfl
 |j+1=>by show(0:Int)::((aw (j+1) (0:Int)++tail).set j x)=0::(aw j 0++x::tail);rw[ot x tail j]
theorem PX(nt nt2:Nat)(hnt:nt<=18):∀(j k n:Nat) (tail:List Int),nt=j+tail.length->n<=9223372036854775807->j<k->
 Kq k (n:Int) nt ((j:Int)-1) nt2 (aw j 0++tail)=some (((n/10^j:Nat):Int),nt,nt2,wR j n++tail)
 |j,0,n,tail,_,_,hk=>by omega
 |0,k+1,n,tail,h,hn,hk=>by unfold Kq T3;dsimp only;rw[zF (by omega),zD];simp [wR]
 |j+1,k+1,n,tail,h,hn,hk=>by
  unfold Kq T3;dsimp only;have e:(((j+1:Nat):Int)-1)=(j:Int):=by omega
  rw[e,zT (by omega:(0:Int)<=(j:Int)),zC,zi (by omega),ar,anr,anq,aiI];have hb:Nat.ble (j+1) (aw (j+1) (0:Int)++tail).length=true:=kP (by simp);rw[hb,zC,Fs (by omega),zj (by omega) (by omega)];rw[ot,PX nt nt2 hnt j k (n/10) _ (by simp;omega) (by omega) (by omega),zx3];simp [wR]
def pC(n w:Int):af×Bool:=bif decide (0<=n/\1<=w/\w<=18/\n.toNat/10^w.toNat=0) then(strOf (wR w.toNat n.toNat),true) else(bs [],false)
theorem zsg{n w:Int}(h:0<=n/\1<=w/\w<=18/\n.toNat/10^w.toNat=0):pC n w=(strOf (wR w.toNat n.toNat),true):=by unfold pC;rw[zT h];rfl
theorem Um{n w:Int}(h:¬(0<=n/\1<=w/\w<=18/\n.toNat/10^w.toNat=0)):pC n w=(bs [],false):=by unfold pC;rw[zF h];rfl
theorem al8(n w:Int)(hn:n<=9223372036854775807):L6 n w=some (pC n w):=by
 unfold L6 Zx;dsimp only;by_cases h1:n<0
 ·rw[zT h1,zC,Um (by omega)]
 rw[zF h1,zD];by_cases h2:w<1
 ·rw[zT h2,zC,Um (by omega)]
 rw[zF h2,zD];by_cases h3:(18:Int)<w
 ·rw[zT h3,zC,Um (by omega)]
 rw[zF h3,zD,zT (rfl:w=w),zC,zT (by omega:(0:Int)<=w),zC,zT (by omega:w*1<=140737488355328),zC];obtain⟨m,rfl⟩:∃m:Nat,n=m:=⟨n.toNat,by omega⟩
 obtain⟨v,rfl⟩:∃v:Nat,w=v:=⟨w.toNat,by omega⟩
 simp only[ar];have:=PX v v (by omega) v bG m [] (by simp) (by omega) (by rw[zv];omega);simp only[bM] at this;rw[zj (by omega) (by omega),this,zc];unfold Zy;dsimp only;by_cases h4:(0:Int)<((m/10^v:Nat):Int)
 ·rw[zT h4,zC,Um (by simp only[ar];generalize m/10^v=q at h4⊢;omega)]
 ·rw[zF h4,zD,SC,Nat.beq_refl,zC,zsg (by simp only[ar];generalize m/10^v=q at h4⊢;omega)];simp only[ar]
theorem zn2(l r:List Int)(n:Int):nV (l++r) n=nV r (nV l n):=by unfold nV;rw[dM]
theorem Qa:∀w n,n/10^w=0->nV (wR w n) 0=(n:Int)
 |0,n,h=>by simp at h;subst h;rfl
 |w+1,n,h=>by rw[wR,zn2,Qa w (n/10) (by rw[zx3];exact h)];simp only[nV,cm,List.foldl_nil];omega
theorem Po:∀(w n:Nat) (l:List Int),eJ l=true->w=l.length->nV l 0=(n:Int)->wR w n=l/\n/10^w=0
 |0,n,l,hd,hw,hv=>by
  obtain rfl:=bp hw.symm;have:(0:Int)=n:=hv;obtain rfl:n=0:=by omega
  exact⟨rfl,rfl⟩
 |w+1,n,l,hd,hw,hv=>by
  have fS:l≠ []:=by intro e;subst e;simp at hw
  obtain⟨r,b,rfl⟩:∃r b,l=r++ [b]:=⟨l.dropLast,l.getLast fS,(iO fS).symm⟩
  rw[eJ,jj,ap,kd,List.all_nil,eU] at hd;have hb:=hd.2;simp only[jZ,decide_eq_true_eq] at hb;rw[zn2] at hv;have rL:10*nV r 0+(b-48)=n:=hv;obtain⟨i1,i2⟩:=Po w (n/10) r hd.1 (by simpa using hw) (by omega);refine⟨?_,by rw[<-zx3];exact i2⟩;rw[wR,i1];congr 2;omega
def oi(l:List Int):Bool:=l.all λb=>decide (b=48)
theorem Vw(b:Int)(l:List Int):oi (b::l)=(decide (b=48)&&oi l):=rfl
theorem za8(a b:List Int):oi (a++b)=(oi a&&oi b):=jj ..
theorem ada(s:af)(x:Int)(l:List Int)(h:bl s=x::l):ze s 0=x:=by rw[uF,h];rfl
theorem OQ(k:Nat):∀(s:af),s.size<k->s.size<=9223372036854775807->∃r,Lr k s 48=some r/\oi (bl r)=oi (bl s)/\(oi (bl s)=true->bl r=[])/\r.size<=s.size:=by
 induction k with
 |zero=>intro s h;omega
 |succ k ih=>
  intro s h hs;unfold Lr XW;dsimp only;by_cases h0:(0:Int)<(s.size:Int)
  ·have hm:zW zI ((s.size:Int)-1)=((s.size-1:Nat):Int):=by rw[zj (by omega) (by omega)];omega
   rw[zT h0,zC,hm,zi (by omega),ar];have hl:(bl s).length=s.size:=zg s;have fS:bl s≠ []:=by intro e;rw[e] at hl;simp at hl;omega
   obtain⟨r,b,hb⟩:∃r b,bl s=r++ [b]:=⟨(bl s).dropLast,(bl s).getLast fS,(iO fS).symm⟩
   have hr:r.length=s.size-1:=by rw[hb] at hl;simp at hl;omega
   have hx:ze s (s.size-1)=b:=by rw[uF,hb,<-hr,al];simp
   rw[hx];by_cases hz:b=48
   ·rw[zT hz,zC,zT (by omega:(0:Int)<=((s.size-1:Nat):Int)),zC,zT (by omega:((s.size-1:Nat):Int)<=((s.size:Nat):Int)),zC];have he:bl (s.extract 0 (s.size-1))=r:=by rw[xU,hb,aN,<-hr,List.take_left'];rfl
    have lL:(s.extract 0 (s.size-1)).size=s.size-1:=by rw[<-zg,he,hr]
    obtain⟨q,q1,q2,q3,q4⟩:=ih (s.extract 0 (s.size-1)) (by omega) (by omega);refine⟨q,q1,?_,λha=>q3 ?_,by omega⟩
    ·rw[q2,he,hb,za8,Vw,zT hz];simp [oi]
    ·rw[hb,za8,ap] at ha;rw[he];exact ha.1
   ·rw[zF hz,zD];refine⟨s,rfl,rfl,λha=> ?_,aZ _⟩;rw[hb,za8,Vw,zF hz] at ha;simp at ha
  ·rw[zF h0,zD];refine⟨s,rfl,rfl,λ_=>bp (by rw[zg];omega),aZ _⟩
theorem Ns{s:af}{x:Int}{l:List Int}(h:bl s=x::l):bl (s.extract 1 s.size)=l:=by rw[xU,<-zg,cF,h];rfl
theorem OP(k:Nat):∀(s:af),s.size<k->s.size<=9223372036854775807->∃r,Lq k s 48=some r/\((bl r=[])↔oi (bl s)=true):=by
 induction k with
 |zero=>intro s h;omega
 |succ k ih=>
  intro s h hs;unfold Lq XS;dsimp only;have hl:(bl s).length=s.size:=zg s;by_cases h0:(0:Int)<(s.size:Int)
  ·rw[zT h0,zC,zp (by omega) h0];cases hb:bl s with
   |nil=>rw[hb] at hl;simp at hl;omega
   |cons x l=>
    rw[show((0:Int)).toNat=0 from rfl,show((1:Int)).toNat=1 from rfl,ada s x l hb];by_cases hz:x=48
    ·rw[zT hz,zC,zT (by omega:(1:Int)<=((s.size:Nat):Int)),zC];have he:=Ns hb;have lL:(s.extract 1 s.size).size=s.size-1:=by rw[<-zg,he,<-hl,hb];simp
     obtain⟨q,q1,q2⟩:=ih (s.extract 1 s.size) (by omega) (by omega);refine⟨q,q1,q2.trans ?_⟩;rw[he,Vw,zT hz];simp
    ·rw[zF hz,zD];refine⟨s,rfl,?_⟩;rw[hb,Vw,zF hz];simp
  ·rw[zF h0,zD];have:bl s=[]:=bp (by omega);refine⟨s,rfl,?_⟩;rw[this];simp [oi]
theorem alp(s:af)(h:s.size<=9223372036854775807):∃r,BJ s (bs [48])=some r/\(r=bs []↔oi (bl s)=true):=by
 unfold BJ XP;by_cases h0:s=bs []
 ·rw[zT h0,zC];refine⟨s,rfl,?_⟩;rw[h0];simp [zo0,oi]
 rw[zF h0,zD,zF (show¬bs [48]=bs [] from λe=>absurd (congrArg ByteArray.size e) (by decide)),zD,zT (by rfl:(((bs [48]).size:Nat):Int)=1),zC];have hb:ze (bs [48]) ((0:Int)).toNat=48:=by rw[uF];rfl
 have hw {R:Type} (x:ae R):zd (0:Int) (bs [48]).size x=x:=zp (by omega) (by decide);rw[hw,hb,zT (by decide:(48:Int)<128),zC,hw];unfold DH XV;dsimp only;obtain⟨r,r1,r2,r3,r4⟩:=OQ bG s (by rw[zv];omega) h;rw[r1,zc];unfold XX;rw[zc,hw];unfold DG XR;dsimp only;obtain⟨q,q1,q2⟩:=OP bG r (by rw[zv];omega) (by omega);rw[q1,zc];unfold XT;rw[zc];refine⟨q,rfl,?_⟩;rw[zct,q2,r2]
theorem zhd:∀(c:Nat),bl ⟨(jA (bs [48]).data.toList c).toArray⟩=aw c 48
 |0=>rfl
 |c+1=>by rw[fh,<-zhd c];simp only[bl,jA,cg];rfl
def lN(s:af)(w:Int):af×Bool:=
 bif decide (1<=s.size/\s.size<=999/\eJ (bl s)=true/\1<=w/\w<=999) then
  (bif decide ((s.size:Int)<=w) then(strOf (aw (w-s.size).toNat 48++bl s),true)
   else bif oi ((bl s).take (s.size-w.toNat)) then(strOf ((bl s).drop (s.size-w.toNat)),true) else(bs [],false))
 else(bs [],false)
theorem LO{s:af}{w:Int}(h:¬(1<=s.size/\s.size<=999/\eJ (bl s)=true/\1<=w/\w<=999)):lN s w=(bs [],false):=by unfold lN;rw[zF h];rfl
theorem zsc{s:af}{w:Int}(h:1<=s.size/\s.size<=999/\eJ (bl s)=true/\1<=w/\w<=999):lN s w=(bif decide ((s.size:Int)<=w) then(strOf (aw (w-s.size).toNat 48++bl s),true)
 else bif oi ((bl s).take (s.size-w.toNat)) then(strOf ((bl s).drop (s.size-w.toNat)),true) else(bs [],false)):=by unfold lN;rw[zT h];rfl
theorem al7(s:af)(w:Int)(h:s.size<=maxLen):L5 s w=some (lN s w):=by
 unfold L5 Zv;dsimp only;by_cases h0:s=bs []
 ·rw[zT h0,zC,LO];intro hh;rw[h0] at hh;exact absurd hh.1 (by decide)
 have hz:s.size≠0:=λe=>h0 (zct.2 (bp (by rw[zg];exact e)));rw[zF h0,zD];by_cases h1:(999:Int)<(s.size:Int)
 ·rw[zT h1,zC,LO (by omega)]
 rw[zF h1,zD,YF s h,zc];cases hd:eJ (bl s) with
 |false=>rw[LO (by rw[hd];simp)];rfl
 |true=>
  rw[ai,zD];by_cases h2:w<1
  ·rw[zT h2,zC,LO (by omega)]
  rw[zF h2,zD];by_cases h3:(999:Int)<w
  ·rw[zT h3,zC,LO (by omega)]
  rw[zF h3,zD,zsc ⟨by omega,by omega,hd,by omega,by omega⟩];obtain⟨v,rfl⟩:∃v:Nat,w=v:=⟨w.toNat,by omega⟩
  by_cases h4:(s.size:Int)<=(v:Int)
  ·rw[zT h4,zC,zC];obtain⟨c,hc⟩:∃c:Nat,(v:Int)-(s.size:Int)=(c:Int):=⟨v-s.size,by omega⟩
   rw[hc,Fs (by omega)];have hR:strings_Repeat (bs [48]) (c:Int)=some ⟨(jA (bs [48]).data.toList c).toArray⟩:=by unfold strings_Repeat;rw[zT (by omega:(0:Int)<=(c:Int)),zT (by omega:(c:Int)<=9223372036854775807),zT (by rw[show(((bs [48]).size:Nat):Int)=1 from rfl];omega),ar];rfl
   rw[hR,zc];have lL:((⟨(jA (bs [48]).data.toList c).toArray⟩:af)).size=c:=by rw[<-zg,zhd,fN]
   rw[lL,zT (by omega),zC,ar];congr 2;apply A7;rw[tR,zhd,wO];intro x hx;rcases List.mem_append.1 hx with hx|hx
   ·rw[(List.mem_replicate.1 hx).2];unfold zl;omega
   ·exact su hx
  ·rw[zF h4,zD,zD];obtain⟨c,hc⟩:∃c:Nat,(s.size:Int)-(v:Int)=(c:Int):=⟨s.size-v,by omega⟩
   have hcv:s.size-((v:Int)).toNat=c:=by omega
   rw[hc,Fs (by omega),zT (by omega:(0:Int)<=(c:Int)),zC,zT (by omega:(c:Int)<=((s.size:Nat):Int)),zC,ar,hcv];have hx:bl (s.extract 0 c)=(bl s).take c:=by rw[xU,aN]
   have AV:(s.extract 0 c).size=c:=by rw[<-zg,hx,aU,zg];omega
   obtain⟨r,r1,r2⟩:=alp (s.extract 0 c) (by omega);rw[r1,zc];rw[hx] at r2;cases ha:oi ((bl s).take c) with
   |true=>rw[zT (r2.2 ha),ai,zD,zC,zC];congr 2;apply A7;rw[xU,<-zg,cF,wO];exact λx hx=>su (eX hx)
   |false=>rw[zF (λe=>by rw[r2.1 e] at ha;cases ha),aY,zC];rfl
def nj:List Int->List Int
 |a::b::r=>(16*(a-48)+(b-48))::nj r
 |_=>[]
def yY(s:af):af×Bool:=
 bif decide (s.size<=999/\eJ (bl s)=true) then(strOf (nj (if s.size % 2=1 then 48::bl s else bl s)),true) else(bs [],false)
def qg(odd:Bool):List Int->Nat->ae (Int×Int)
 | [],_=>none
 |x::r,i=>if i=0/\odd=true/\x/16≠0 then some (4,0) else if 9<x/16\/9<x % 16 then some (3,i) else qg odd r (i+1)
def ni:List Int->List Int
 | []=>[]
 |x::r=>(48+x/16)::(48+x % 16)::ni r
def z21(b:af)(n:Int):af×Int×Int:=
 if n<0\/999<n then(bs [],1,0) else if(b.size:Int)<(n+1)/2 then(bs [],2,(b.size:Int)) else
 match qg (decide (n % 2=1)) ((bl b).take ((n+1)/2).toNat) 0 with
 |some e=>(bs [],e.1,e.2)
 |none=>(strOf ((ni ((bl b).take ((n+1)/2).toNat)).drop (n % 2).toNat),0,0)
theorem air:∀a b:Fin 10,dv .or .u8 (zW zU ((zW zU ((48+(a.1:Int))-48))*2^min ((4:Int)).toNat 8)) (zW zU ((48+(b.1:Int))-48))=16*(a.1:Int)+(b.1:Int):=by decide+kernel
theorem QZ{x:Int}(h:jZ x=true):∃k:Fin 10,x=48+(k.1:Int):=by unfold jZ at h;simp only[ap,decide_eq_true_eq] at h;exact⟨⟨(x-48).toNat,by omega⟩,by simp;omega⟩
theorem aae{x y:Int}(hx:jZ x=true)(hy:jZ y=true):dv .or .u8 (zW zU ((zW zU (x-48))*2^min ((4:Int)).toNat 8)) (zW zU (y-48))=16*(x-48)+(y-48):=by obtain⟨a,rfl⟩:=QZ hx;obtain⟨b,rfl⟩:=QZ hy;have:=air a b;rw[this];omega
theorem zaa(s:af)(hs:s.size<=1099511627776)(hev:s.size % 2=0)(hd:eJ (bl s)=true):∀(n j k:Nat) (o:List Int),j+2*n=s.size->n<k->o.length+n<=35184372088832->sN k s o (j:Int)=some (o++nj ((bl s).drop j))
 |n,j,0,o,_,hk,_=>by omega
 |0,j,k+1,o,hj,hk,_=>by unfold sN vE;rw[zF (by omega),zD,aK (by rw[zg];omega),nj,bM];exact λ_ _ _ h=>by cases h
 |n+1,j,k+1,o,hj,hk,ho=>by
  have bR:j<s.size:=by omega
  have EB:j+1<s.size:=by omega
  have hl:j<(bl s).length:=by rw[zg];exact bR
  have GJ:j+1<(bl s).length:=by rw[zg];exact EB
  have d1:=aR.1 hd _ (b6 hl);have d2:=aR.1 hd _ (b6 GJ);have e:zW zI ((j:Int)+2)=((j+2:Nat):Int):=by rw[zj (by omega) (by omega)];omega
  unfold sN vE;rw[zT (by omega),zC,zi bR,zu (by omega),zi EB,ar,ar,TP hl,TP GJ,aae d1 d2,zT (by simp only[cr];omega),zC,e];dsimp only;rw[zaa s hs hev hd n (j+2) k _ (by omega) (by omega) (by rw[aF,cr];omega),aO hl,aO GJ,nj,aQ];rfl
theorem aaf:bl (bs [48])=[48]:=by decide
theorem zg9(s:af)(hs:s.size<=maxLen):Q1 s=some (yY s):=by
 unfold Q1 tX yY;by_cases h1:(999:Int)<(s.size:Int)
 ·rw[zT h1,zC,zF (by omega)];rfl
 ·rw[zF h1,zD,YF s hs,zc];cases hd:eJ (bl s) with
  |false=>rw[zF (p:=s.size<=999/\false=true) (λh=>by cases h.2)];rfl
  |true=>
   rw[ai,zD,zT (⟨by omega,rfl⟩:s.size<=999/\true=true),zC,Lj];by_cases hp:s.size % 2=1
   ·have lL:(bs [48]++s).size=s.size+1:=by rw[cq];show 1+s.size=_;omega
    have hb:bl (bs [48]++s)=48::bl s:=by rw[tR,aaf];rfl
    rw[if_pos hp,zF (by omega),aY,zC,zT (by show 1+s.size<=_;omega),zC,lL];have e:dc ((s.size+1:Nat):Int) 2=(((s.size+1)/2:Nat):Int):=rfl;rw[e,zj (by omega) (by omega),zT (by omega),zC,zT (by omega),zC];have:=zaa (bs [48]++s) (by omega) (by omega) (by rw[hb];show(jZ 48&&eJ (bl s))=true;rw[hd];rfl) ((s.size+1)/2) 0 bG [] (by omega) (by rw[zv];omega) (by simp;omega);rw[show((0:Nat):Int)=0 from rfl,aN,bD,hb] at this;dsimp only;rw[this];rfl
   ·rw[if_neg hp,zT (by omega),ai,zD];have e:dc ((s.size:Nat):Int) 2=((s.size/2:Nat):Int):=rfl;rw[e,zj (by omega) (by omega),zT (by omega),zC,zT (by omega),zC];have:=zaa s (by omega) (by omega) hd (s.size/2) 0 bG [] (by omega) (by rw[zv];omega) (by simp;omega);rw[show((0:Nat):Int)=0 from rfl,aN,bD] at this;dsimp only;rw[this];rfl
theorem SB(n:Int)(h0:0<=n)(h1:n<=999):Q2 n=some ((n+1)/2):=by
 unfold Q2 yc;obtain⟨m,rfl⟩:∃m:Nat,n=m:=⟨n.toNat,by omega⟩
 by_cases h:(m:Int)<1
 ·rw[zT h,zC];congr 1;omega
 ·rw[zF h,zD,Lj];have e:dc (m:Int) 2=((m/2:Nat):Int):=rfl;have e2:zW zI ((m/2:Nat):Int)=((m/2:Nat):Int):=zj (by omega) (by omega);rw[e,e2,zj (by omega) (by omega)];congr 1;omega
theorem ajo:∀d:Fin 16,d.1<=9->zW zU ((48:Int)+(d.1:Int))=48+(d.1:Int):=by decide+kernel
theorem Oy{d:Nat}(h:d<=9):zW zU ((48:Int)+(d:Int))=48+(d:Int):=ajo ⟨d,by omega⟩ h
theorem zm8(b:af)(hb0:b.size<=1099511627776)(nn:Nat)(hn:nn<=999)(m:Nat)(hm:m<=b.size):∀(n j k:Nat) (o:List Int),j+n=m->n<k->o.length+2*n<=35184372088832->∃o',rG k b (nn:Int) o (m:Int) (j:Int)=some (match qg (decide (nn % 2=1)) (((bl b).take m).drop j) j with
 |some e=> .inl ((nn:Int),bs [],e.1,e.2,o')
 |none=> .inr ((nn:Int),o++ni (((bl b).take m).drop j)))
 |n,j,0,o,_,hk,_=>by omega
 |0,j,k+1,o,hj,hk,_=>by unfold rG vC;rw[zF (by omega),zD,aK (by rw[aU,zg];omega)];exact⟨o,by simp [qg,ni]⟩
 |n+1,j,k+1,o,hj,hk,ho=>by
  have bR:j<b.size:=by omega
  have hl:j<(bl b).length:=by rw[zg];exact bR
  have hl2:j<((bl b).take m).length:=by rw[aU];omega
  obtain⟨x,hx,_,_⟩:=nib (su (b6 hl));have yN:=x.2;have ih:=zm8 b hb0 nn hn m hm n (j+1) k (o++ [48+((x.1/16:Nat):Int),48+((x.1 % 16:Nat):Int)]) (by omega) (by omega) (by rw[aF];simp only[aB,cM];omega);have hw:∀{R:Type} (z:ae R),zd (j:Int) b.size z=z:=λz=>zi bR;have rh:((bl b).take m).drop j=(x.1:Int)::((bl b).take m).drop (j+1):=by rw[aO hl2,jU,hx]
  rw[rh,qg,ni];unfold rG vC;simp only[hw,ar,TP hl,hx,(YB x).1,(YB x).2.1,Lj];rw[zT (by omega:(j:Int)<(m:Int)),zC];have e16:(x.1:Int)/16=((x.1/16:Nat):Int):=by omega
  have e17:(x.1:Int)% 16=((x.1 % 16:Nat):Int):=by omega
  rw[e16,e17];have plain:∀(Z:ae (Sum (Int×af×Int×Int×List Int) (Int×List Int))),Z=(bif decide ((9:Int)<((x.1/16:Nat):Int)) then some (.inl ((nn:Int),bs [],(3:Int),(j:Int),o)) else bif decide ((9:Int)<((x.1 % 16:Nat):Int)) then some (.inl ((nn:Int),bs [],(3:Int),(j:Int),o)) else(bif decide ((o.length+(ag ([zW zU (48+((x.1/16:Nat):Int)),zW zU (48+((x.1 % 16:Nat):Int))]:List Int)))*1<=140737488355328) then rG k b (nn:Int) (o++ [zW zU (48+((x.1/16:Nat):Int)),zW zU (48+((x.1 % 16:Nat):Int))]) (m:Int) (zW zI ((j:Int)+1)) else none))->
   ∃o',Z=some (match(if 9<((x.1/16:Nat):Int)\/9<((x.1 % 16:Nat):Int) then some ((3:Int),(j:Int)) else qg (decide (nn % 2=1)) (((bl b).take m).drop (j+1)) (j+1)) with
    |some e=> .inl ((nn:Int),bs [],e.1,e.2,o')
    |none=> .inr ((nn:Int),o++(48+((x.1/16:Nat):Int))::(48+((x.1 % 16:Nat):Int))::ni (((bl b).take m).drop (j+1)))):=λZ hZ=>by
   rw[hZ];by_cases c1:(9:Int)<((x.1/16:Nat):Int)
   ·rw[zT c1,if_pos (.inl c1)];exact⟨o,rfl⟩
   ·by_cases c2:(9:Int)<((x.1 % 16:Nat):Int)
    ·rw[zF c1,zD,zT c2,if_pos (.inr c2)];exact⟨o,rfl⟩
    ·rw[zF c1,zD,zF c2,zD,if_neg (λh=>h.elim c1 c2),Oy (by omega),Oy (by omega),zT (by simp only[aB,cM];omega),zC,zu (by omega)];obtain⟨o',h⟩:=ih;refine⟨o',h.trans ?_⟩;rw[aQ];rfl
  by_cases j0:j=0
  ·subst j0;rw[zT (by omega:((0:Nat):Int)=0),zC];by_cases hp:nn % 2=1
   ·rw[zT hp,zF (by omega:¬((nn % 2:Nat):Int)=0),aY,zC];by_cases hz:x.1/16=0
    ·rw[if_neg (by omega),zT (by omega),ai,zD];have:=plain _ rfl;rw[zT hp] at this;exact this
    ·rw[if_pos (by simp;omega),zF (by omega),aY,zC];exact⟨o,rfl⟩
   ·rw[zF hp,zT (by omega:((nn % 2:Nat):Int)=0),ai,zD,if_neg (by simp)];have:=plain _ rfl;rw[zF hp] at this;exact this
  ·rw[zF (by omega:¬(j:Int)=0),zD,if_neg (by omega)];exact plain _ rfl
theorem zg8(b:af)(n:Int)(hb:b.size<=1099511627776):Q0 b n=some (z21 b n):=by
 unfold Q0 xY z21;by_cases h0:n<0
 ·rw[zT h0,if_pos (.inl h0)];rfl
 ·rw[zF h0,zD];by_cases h1:999<n
  ·rw[zT h1,if_pos (.inr h1)];rfl
  ·rw[zF h1,zD,if_neg (λh=>h.elim h0 h1),SB n (by omega) (by omega),zc];by_cases h2:(b.size:Int)<(n+1)/2
   ·rw[zT h2,if_pos h2];rfl
   ·rw[zF h2,zD,if_neg h2,zj (by omega) (by omega),zT (by omega),zC,zT (by omega),zC,zc];obtain⟨nn,rfl⟩:∃nn:Nat,n=nn:=⟨n.toNat,by omega⟩
    have em:((nn:Int)+1)/2=(((nn+1)/2:Nat):Int):=by omega
    have ep:((nn:Int)% 2).toNat=nn % 2:=by omega
    have eo:decide ((nn:Int)% 2=1)=decide (nn % 2=1):=decide_eq_decide.2 (by omega);rw[em,ar,eo,ep];obtain⟨o',h⟩:=zm8 b hb nn (by omega) ((nn+1)/2) (by omega) ((nn+1)/2) 0 bG [] (by omega) (by rw[zv];omega) (by simp;omega);rw[show((0:Nat):Int)=0 from rfl,aN,bD] at h;dsimp only;rw[h,zc];cases qg (decide (nn % 2=1)) ((bl b).take ((nn+1)/2)) 0 with
    |some e=>rfl
    |none=>
     dsimp only;rw[cj];unfold xZ;dsimp only;rw[Lj,zT (by omega),zC];have hlen:∀l:List Int,(ni l).length=2*l.length:=λl=>by
      induction l with
      |nil=>rfl
      |cons x r ih=>rw[ni,aB,aB,ih,aB];omega
     rw[zT (by rw[hlen,aU,zg];omega),zC,ar,cF]
theorem Az{a:Int}{l:List Int}:eJ (a::l)=true↔jZ a=true/\eJ l=true:=by rw[zg1,ap]
theorem C9{a:Int}:jZ a=true↔48<=a/\a<=57:=by unfold jZ;rw[decide_eq_true_eq]
theorem zns:∀l:List Int,(nj l).length=l.length/2
 | []=>rfl
 | [a]=>by simp [nj]
 |a::b::r=>by rw[nj,aB,zns r,aB,aB];omega
theorem znr:∀l:List Int,(ni l).length=2*l.length
 | []=>rfl
 |x::r=>by rw[ni,aB,aB,znr r,aB];omega
theorem zxv:∀{l:List Int},eJ l=true->∀y∈nj l,zl y
 | [],_,y,hy=>by simp [nj] at hy
 | [a],_,y,hy=>by simp [nj] at hy
 |a::b::r,h,y,hy=>by
  obtain⟨h1,h2⟩:=Az.1 h;obtain⟨h2,h3⟩:=Az.1 h2;rw[C9] at h1 h2;rw[nj] at hy;rcases aD.1 hy with rfl|hy
  ·unfold zl;omega
  ·exact zxv h3 y hy
theorem Gg:∀{l:List Int},l.length % 2=0->eJ l=true->ni (nj l)=l
 | [],_,_=>by simp [nj,ni]
 | [a],h,_=>by simp at h
 |a::b::r,h,hd=>by obtain⟨h1,h2⟩:=Az.1 hd;obtain⟨h2,h3⟩:=Az.1 h2;rw[C9] at h1 h2;rw[nj,ni,Gg (by simp only[aB] at h;omega) h3,show 48+(16*(a-48)+(b-48))/16=a by omega,show 48+(16*(a-48)+(b-48))% 16=b by omega]
theorem Gf(odd:Bool):∀{l:List Int} {i:Nat},l.length % 2=0->eJ l=true->(i=0->odd=true->l.getD 0 48=48)->qg odd (nj l) i=none
 | [],_,_,_,_=>by simp [nj,qg]
 | [a],_,h,_,_=>by simp at h
 |a::b::r,i,h,hd,ho=>by
  obtain⟨h1,h2⟩:=Az.1 hd;obtain⟨h2,h3⟩:=Az.1 h2;rw[C9] at h1 h2;rw[nj,qg,if_neg,if_neg (by omega)]
  ·exact Gf odd (by simp only[aB] at h;omega) h3 λhi=>by omega
  ·rintro⟨e1,e2,e3⟩;have:a=48:=ho e1 e2;omega
def qF(s:af):List Int:=if s.size % 2=1 then 48::bl s else bl s
theorem zxw(s:af):(qF s).length % 2=0:=by
 unfold qF;split
 ·rw[aB,zg];omega
 ·rw[zg];omega
theorem Pf(s:af):(qF s).length/2=(s.size+1)/2:=by
 unfold qF;split
 ·rw[aB,zg]
 ·rw[zg];omega
theorem znt{s:af}(h:eJ (bl s)=true):eJ (qF s)=true:=by
 unfold qF;split
 ·exact Az.2 ⟨rfl,h⟩
 ·exact h
theorem zgb{s:af}(h:s.size<=999)(hd:eJ (bl s)=true):yY s=(strOf (nj (qF s)),true):=by unfold yY qF;rw[zT ⟨h,hd⟩,zC]
theorem Sw{s:af}(h:s.size<=999)(hd:eJ (bl s)=true):(yY s).1.size=(s.size+1)/2:=by rw[zgb h hd];show(strOf _).size=_;rw[wM,zns,Pf]
theorem znu{s:af}(h:s.size<=999)(hd:eJ (bl s)=true):z21 (yY s).1 (s.size:Int)=(s,0,0):=by
 have lL:=Sw h hd;have hb:bl (yY s).1=nj (qF s):=by rw[zgb h hd];exact wO (zxv (znt hd))
 unfold z21;rw[if_neg (by omega),if_neg (by rw[lL];omega),hb,bV (by rw[zns,Pf];omega),Gf _ (zxw s) (znt hd),Gg (zxw s) (znt hd)]
 ·dsimp only;by_cases hp:s.size % 2=1
  ·rw[show((s.size:Int)% 2).toNat=1 by omega];unfold qF;rw[if_pos hp,lD,aN,CU]
  ·rw[show((s.size:Int)% 2).toNat=0 by omega];unfold qF;rw[if_neg hp,aN,CU]
 ·intro _ ho;have ho:=of_decide_eq_true ho;unfold qF;rw[if_pos (by omega)];rfl
theorem zxu{odd:Bool}:∀{l:List Int} {i:Nat},qg odd l i=none->(∀x∈l,x/16<=9/\x % 16<=9)/\(i=0->odd=true->l.getD 0 0/16=0)
 | [],i,_=>⟨λx hx=>(by cases hx),λ_ _=>rfl⟩
 |a::r,i,h=>by
  rw[qg] at h;by_cases h1:i=0/\odd=true/\a/16≠0
  ·rw[if_pos h1] at h;cases h
  ·rw[if_neg h1] at h;by_cases h2:9<a/16\/9<a % 16
   ·rw[if_pos h2] at h;cases h
   ·rw[if_neg h2] at h;refine⟨λx hx=> ?_,λhi ho=> ?_⟩
    ·rcases aD.1 hx with rfl|hx
     ·omega
     ·exact(zxu h).1 x hx
    ·show a/16=0;by_cases h3:a/16=0
     ·exact h3
     ·exact absurd ⟨hi,ho,h3⟩ h1
theorem Gh:∀{l:List Int},(∀x∈l,zl x)->nj (ni l)=l
 | [],_=>by simp [ni,nj]
 |x::r,h=>by have hx:=h x aM;unfold zl at hx;rw[ni,nj,Gh λy hy=>h y (aE _ hy),show 16*(48+x/16-48)+(48+x % 16-48)=x by omega]
theorem Pe:∀{l:List Int},(∀x∈l,zl x)->(∀x∈l,x/16<=9/\x % 16<=9)->eJ (ni l)=true
 | [],_,_=>rfl
 |x::r,h,h9=>by have hx:=h x aM;have hy:=h9 x aM;unfold zl at hx;rw[ni];exact Az.2 ⟨C9.2 (by omega),Az.2 ⟨C9.2 (by omega),Pe (λy hy=>h y (aE _ hy)) λy hy=>h9 y (aE _ hy)⟩⟩
theorem zya{l:List Int}(h:eJ l=true):∀x∈l,zl x:=λx hx=>by have:=C9.1 (aR.1 h x hx);unfold zl;omega
theorem zgc{b t:af}{n i:Int}(h:z21 b n=(t,0,i))(hb:(b.size:Int)=(n+1)/2):yY t=(b,true)/\(t.size:Int)=n/\eJ (bl t)=true:=by
 unfold z21 at h;by_cases h0:n<0\/999<n
 ·rw[if_pos h0] at h;cases h
 ·rw[if_neg h0,if_neg (by omega),<-hb,ar,bV (by rw[zg];exact aZ _)] at h;cases he:qg (decide (n % 2=1)) (bl b) 0 with
  |some e=>
   rw[he] at h;dsimp only at h;injection h with _ h
   injection h with h _
   exfalso;have key:∀{l:List Int} {i:Nat} {odd:Bool} {e:Int×Int},qg odd l i=some e->e.1≠0:=by
    intro l
    induction l with
    |nil=>intro i odd e h;cases h
    |cons a r ih=>
     intro i odd e h;rw[qg] at h;split at h
     ·cases h;decide
     ·split at h
      ·cases h;simp
      ·exact ih h
   exact key he h
  |none=>
   rw[he] at h;dsimp only at h;obtain⟨g1,g2⟩:=zxu he;have wS:∀x∈bl b,zl x:=λx hx=>su hx;have kR:=Pe wS g1;have ht:t=strOf ((ni (bl b)).drop (n % 2).toNat):=(congrArg Prod.fst h).symm;have Gv:eJ ((ni (bl b)).drop (n % 2).toNat)=true:=aR.2 λx hx=>aR.1 kR x (eX hx);have l8:bl t=(ni (bl b)).drop (n % 2).toNat:=by rw[ht];exact wO (zya Gv)
   have tD:t.size=2*b.size-(n % 2).toNat:=by rw[<-zg,l8,bF,znr,zg]
   have hX:qF t=ni (bl b):=by
    unfold qF;by_cases hp:n % 2=1
    ·rw[if_pos (by omega),l8,show(n % 2).toNat=1 by omega];have h1:=g2 rfl (by rw[zT hp]);cases hl:bl b with
     |nil=>
      have h9:b.size=0:=by rw[<-zg,hl];rfl
      omega
     |cons x r=>rw[hl] at h1;have h1:x/16=0:=h1;rw[ni,lD,aN,h1];rfl
    ·rw[if_neg (by omega),l8,show(n % 2).toNat=0 by omega,aN]
   have hd:eJ (bl t)=true:=by rw[l8];exact Gv
   refine⟨?_,by omega,hd⟩;rw[zgb (by omega) hd,hX,Gh wS,CU]
def nM(style form:Int):Bool:=decide ((style=1\/style=2)/\(form=2\/form=3))
def sj(style form:Int):Nat:=if style=2 then(form.toNat+1)/2 else form.toNat
def vA(style form n:Int):af×Int:=
 bif nM style form then(bif(pC n form).2 then(if style=2 then(yY (pC n form).1).1 else(pC n form).1,0) else(bs [],5)) else(bs [],1)
def xO(style form:Int)(s:af):ae Int:=
 if style=2 then(if(z21 s form).2.1=0 then(if(mD (bl (z21 s form).1)).2=true then some (mD (bl (z21 s form).1)).1 else none) else none) else if(mD (bl s)).2=true then some (mD (bl s)).1 else none
def tF(style form:Int)(b:af)(at_:Int):Int×Int×Int:=
 bif nM style form&&decide (0<=at_/\at_<=b.size) then(if b.size<at_.toNat+sj style form then(0,0,2) else
  match xO style form (b.extract at_.toNat (at_.toNat+sj style form)) with
  |some n=>(n,((at_.toNat+sj style form:Nat):Int),0)
  |none=>(0,0,3)) else(0,0,1)
theorem zzm(n w:Int):(pC n w).1.size<=18:=by
 by_cases h:0<=n/\1<=w/\w<=18/\n.toNat/10^w.toNat=0
 ·rw[zsg h];show(strOf _).size<=18;rw[wM,SC];omega
 ·rw[Um h];decide
theorem agv(style form n:Int)(hn:n<=9223372036854775807):zH style form n=some (vA style form n):=by
 unfold zH WX zJ Tp sO Tq vA nM;by_cases h1:style=1<;>by_cases h2:style=2<;>by_cases h3:form=2<;>by_cases h4:form=3<;>(try(exfalso;omega))<;>simp [h1,h2,h3,h4,al8 _ _ hn]
 all_goals
  cases hp:(pC n _).2<;>simp [hp]
 all_goals
  rw[zg9 _ (by have:=zzm n;simp only[maxLen];first|(have:=this 2;omega)|(have:=this 3;omega))];rfl
theorem J0{b:af}{i n:Nat}(h:i+n<=b.size):(b.extract i (i+n)).size=n:=by rw[b9];omega
theorem za9{b t:af}{n e i:Int}(h:z21 b n=(t,e,i)):t.size<=1998:=by
 unfold z21 at h;split at h
 ·cases h;decide
 ·split at h
  ·cases h;decide
  ·split at h
   ·cases h;decide
   ·cases h;rw[wM,bF,znr,aU];omega
theorem agt(style form:Int)(b:af)(at_:Int)(hb:b.size<=1099511627776):Bs style form b at_=some (tF style form b at_):=by
 unfold Bs WU zJ Tp sO Tq tF nM;by_cases iC:0<=at_/\at_<=b.size
 ·obtain⟨m,rfl⟩:∃m:Nat,at_=m:=⟨at_.toNat,by omega⟩
  have hm:m<=b.size:=by omega
  have w0:zW zI ((b.size:Int)-(m:Int))=(b.size:Int)-m:=zj (by omega) (by omega);have w1:∀k:Nat,k<=3->zW zI ((m:Int)+(k:Int))=((m+k:Nat):Int):=λk hk=>by rw[zj (by omega) (by omega)];omega
  have z1:=SB 2 (by decide) (by decide);have z2:=SB 3 (by decide) (by decide);have v1:=w1 1 (by decide);have v2:=w1 2 (by decide);have v3:=w1 3 (by decide);rw[show((1:Nat):Int)=1 from rfl] at v1;rw[show((2:Nat):Int)=2 from rfl] at v2;rw[show((3:Nat):Int)=3 from rfl] at v3;have t2:((m:Int)+2).toNat=m+2:=by omega
  have t3:((m:Int)+3).toNat=m+3:=by omega
  have a1:¬(m:Int)<0:=by omega
  have a2:¬(b.size:Int)<m:=by omega
  have a3:0<=((m:Int)):=by omega
  have a4:(m:Int)<=b.size:=by omega
  by_cases h1:style=1<;>by_cases h2:style=2<;>by_cases h3:form=2<;>by_cases h4:form=3<;>(try(exfalso;omega))<;>simp [h1,h2,h3,h4,a1,a2,w0,z1,z2,v1,v2,v3,sj]
  all_goals
   rw[zT hm,zC];split
   ·rename_i hc;rw[zT (by omega),zC]
   ·rename_i hc;rw[zF (by omega),zD,zT (by omega),zC,zT (by omega),zC,zT (by omega),zC]
    try rw[t2]
    try rw[t3]
    first
     |(rw[RB _ (by rw[b9];simp only[maxLen];omega),zc]
       unfold xO;rw[if_neg (by decide)];cases(mD _).2<;>rfl)
     |(rw[zg8 _ _ (by rw[b9];omega),zc]
       unfold xO;rw[if_pos rfl];generalize hg:z21 _ _=gg;obtain⟨t,e,i⟩:=gg;dsimp only;by_cases he:e=0
       ·rw[zT he,zC,if_pos he,RB _ (by have:=za9 hg;simp only[maxLen];omega),zc];cases(mD _).2<;>rfl
       ·rw[zF he,if_neg he];rfl)
 ·rw[zF (p:=0<=at_/\at_<=(b.size:Int)) iC,eL,zD];by_cases h1:style=1<;>by_cases h2:style=2<;>by_cases h3:form=2<;>by_cases h4:form=3<;>(try(exfalso;omega))<;>by_cases h5:at_<0<;>by_cases h6:(b.size:Int)<at_<;>(try(exfalso;omega))<;>simp [h1,h2,h3,h4,h5,h6]
theorem zwx(n:Int):Q4 n=some (if n<0\/65535<n then 0 else if 255<n then 3 else if 127<n then 2 else 1):=by
 unfold Q4 yi;by_cases h1:n<0
 ·rw[zT h1,if_pos (.inl h1)];rfl
 by_cases h2:(65535:Int)<n
 ·rw[zF h1,zT h2,if_pos (.inr h2)];rfl
 rw[zF h1,zF h2,if_neg (by omega)];by_cases h3:(255:Int)<n
 ·rw[zT h3,if_pos h3];rfl
 by_cases h4:(127:Int)<n
 ·rw[zF h3,zT h4,if_neg h3,if_pos h4];rfl
 ·rw[zF h3,zF h4,if_neg h3,if_neg h4];rfl
theorem Gp:∃k,bG=k+1+1+1:=⟨bG-3,by rw[zv]⟩
theorem Rn{y:Int}(hy:zl y):dv .or .i64 (zW zI (0*2^min (8:Int).toNat 64)) (zW zI y)=y:=by obtain⟨k,rfl⟩:=vr hy;clear hy;revert k;decide+kernel
theorem afj(s:af)(hs:s.size<=9223372036854775000)(a:Int):Q3 s a=KD s a:=by
 unfold Q3 tY KD Jw;by_cases h1:a<0
 ·rw[zT h1];rfl
 rw[zF h1,zD,zD];by_cases h2:(s.size:Int)<a
 ·rw[zT h2];rfl
 rw[zF h2,zD,zD];by_cases h3:a=(s.size:Int)
 ·rw[zT h3];rfl
 have wa:∀{R:Type} (x:ae R),zd a s.size x=x:=λx=>zp (by omega) (by omega);rw[zF h3,zD,zD];simp only[wa];obtain⟨x,hx⟩:=vr (z28 s a.toNat);have yN:=x.2;have w1:zW zI (a+1)=a+1:=zj (by omega) (by omega);have w2:zW zI (x.1:Int)=(x.1:Int):=zj (by omega) (by omega);have w4:zW zI ((s.size:Int)-a)=(s.size:Int)-a:=zj (by omega) (by omega);have w5:zW zI ((s.size:Int)-(a+1))=(s.size:Int)-(a+1):=zj (by omega) (by omega);have w6:zW zI ((x.1:Int)-128)=(x.1:Int)-128:=zj (by omega) (by omega);have w7:zW zI ((x.1:Int)-127)=(x.1:Int)-127:=zj (by omega) (by omega);obtain⟨k,hk⟩:=Gp;simp only[hx,w2,w1,w4,w5,w6,w7,hk];by_cases h4:(127:Int)<(x.1:Int)
 ·rw[zT h4,zC,zF (by omega:¬(x.1:Int)<128),zD];by_cases h5:(x.1:Int)=129
  ·have wn:zW zI (0+1)=1:=rfl;simp only[h5];by_cases h6:(s.size:Int)-a<2
   ·have e1:((s.size:Int)-(a+1)<129-128):=by omega
    have e2:((s.size:Int)-a<129-127):=by omega
    rw[zT e1,zT e2];rfl
   ·have e1:¬((s.size:Int)-(a+1)<129-128):=by omega
    have e2:¬((s.size:Int)-a<129-127):=by omega
    have wb:∀{R:Type} (x:ae R),zd (a+1) s.size x=x:=λx=>zp (by omega) (by omega);have wc:∀{R:Type} (x:ae R),zd (zW zI (a+1+0)) s.size x=x:=λx=>by rw[kG,w1];exact wb x
    obtain⟨y,hy⟩:=vr (z28 s (a+1).toNat);have UW:=y.2;have w3:zW zI (y.1:Int)=(y.1:Int):=zj (by omega) (by omega);have oz:=Rn (y:=(y.1:Int)) ⟨by omega,by omega⟩;rw[w3] at oz;rw[zF e1,zF e2];have l1:nW (k+1+1+1) s (a+1) 0 (129-128) (129-128) 0=some (a+1,(y.1:Int),129-128):=by simp only[nW,tZ];rw[show decide ((0:Int)<129-128)=true from rfl,zC,wc,wn,show decide ((1:Int)<129-128)=false from rfl,zD,kG,w1,hy,w3,oz]
    simp only[wb,hy,w3];show(nW (k+1+1+1) s (a+1) 0 (129-128) (129-128) 0).bind _=_;rw[l1,au];unfold ua;dsimp only;rw[zwx,au];by_cases h7:(y.1:Int)<128
    ·rw[if_neg (by omega),if_neg (by omega),if_neg (by omega),zT h7];rfl
    ·rw[if_neg (by omega),if_neg (by omega),if_pos (by omega),zF h7];have:zW zI (a+1+(129-128))=zW zI (a+2):=by congr 1;omega
     simp only[this];rfl
  ·by_cases h6:(x.1:Int)=130
   ·have wn:zW zI (0+1)=1:=rfl;have wm:zW zI (1+1)=2:=rfl;simp only[h6];by_cases h7:(s.size:Int)-a<3
    ·have e1:((s.size:Int)-(a+1)<130-128):=by omega
     have e2:((s.size:Int)-a<130-127):=by omega
     rw[zT e1,zT e2];rfl
    ·have e1:¬((s.size:Int)-(a+1)<130-128):=by omega
     have e2:¬((s.size:Int)-a<130-127):=by omega
     have wb:∀{R:Type} (x:ae R),zd (a+1) s.size x=x:=λx=>zp (by omega) (by omega);have w8:zW zI (a+2)=a+2:=zj (by omega) (by omega);have w9:zW zI (a+1+1)=a+2:=by rw[zj (by omega) (by omega)];omega
     have wd:∀{R:Type} (x:ae R),zd (a+2) s.size x=x:=λx=>zp (by omega) (by omega);obtain⟨y,hy⟩:=vr (z28 s (a+1).toNat);obtain⟨z,hz⟩:=vr (z28 s (a+2).toNat);have UW:=y.2;have hz2:=z.2;have w3:zW zI (y.1:Int)=(y.1:Int):=zj (by omega) (by omega);have OT:zW zI (z.1:Int)=(z.1:Int):=zj (by omega) (by omega);have oz:=Rn (y:=(y.1:Int)) ⟨by omega,by omega⟩;have ob:=zoc (x:=(y.1:Int)) (y:=(z.1:Int)) ⟨by omega,by omega⟩ ⟨by omega,by omega⟩;rw[w3] at oz;rw[w3,OT] at ob;rw[zF e1,zF e2];have l1:nW (k+1+1+1) s (a+1) 0 (130-128) (130-128) 0=some (a+1,(y.1:Int)*256+(z.1:Int),130-128):=by simp only[nW,tZ];rw[show decide ((0:Int)<130-128)=true from rfl,zC,wn,wm,show decide ((1:Int)<130-128)=true from rfl,zC,show decide ((2:Int)<130-128)=false from rfl,zD,kG,w1,wb,w9,wd,hy,hz,w3,OT,oz,ob]
     have w5':zW zI (256*(y.1:Int))=256*(y.1:Int):=zj (by omega) (by omega);have w6':zW zI (256*(y.1:Int)+(z.1:Int))=(y.1:Int)*256+(z.1:Int):=by rw[zj (by omega) (by omega)];omega
     simp only[wb,w8,wd,hy,hz,w3,OT,w5',w6'];show(nW (k+1+1+1) s (a+1) 0 (130-128) (130-128) 0).bind _=_;rw[l1,au];unfold ua;dsimp only;rw[zwx,au];by_cases h8:(y.1:Int)=0
     ·rw[if_neg (by omega),if_neg (by omega),zT h8];by_cases h9:(127:Int)<(y.1:Int)*256+(z.1:Int)
      ·rw[if_pos h9];rfl
      ·rw[if_neg h9];rfl
     ·rw[if_neg (by omega),if_pos (by omega),zF h8];have:zW zI (a+1+(130-128))=zW zI (a+3):=by congr 1;omega
      simp only[this];rfl
   ·rw[zF h5,zF h6];by_cases h7:(x.1:Int)=128
    ·rw[zT h7];rfl
    ·rw[zF h7,zT (by omega:(130:Int)<(x.1:Int))];rfl
 ·rw[zF h4,zD,zT (by omega:(x.1:Int)<128),zC,zF (by omega:¬(s.size:Int)-(a+1)<0),zD];have l1:nW (k+1+1+1) s (a+1) (x.1:Int) 0 0 0=some (a+1,(x.1:Int),0):=by simp only[nW,tZ];rw[show decide ((0:Int)<0)=false from rfl,zD]
  show(nW (k+1+1+1) s (a+1) (x.1:Int) 0 0 0).bind _=_;rw[l1,au];unfold ua;dsimp only;rw[zwx,au,if_neg (by omega),if_neg (by omega),if_neg (by omega),kG,w1];rfl
abbrev eH:=Int×af×Unit
theorem zrt(l:List eH)(hl:l.length<=9223372036854775807)(t:Int):∀(m j k:Nat),j+m=l.length->m<k->Ub k l (l.length:Int) t (j:Int)=some (if t∈(l.drop j).map (λv=>v.1) then .inl true else .inr ())
 |m,j,0,_,hk=>by omega
 |0,j,k+1,hj,hk=>by unfold Ub Jz;rw[zF (by omega),aK (by omega)];rfl
 |m+1,j,k+1,hj,hk=>by
  have bR:j<l.length:=by omega
  have hg:∀d,l.getD j d=l[j]:=λd=>by rw[al,av bR];rfl
  unfold Ub Jz;rw[zT (by omega),zC,zi bR,ar,hg,aO bR,bd];by_cases h:l[j].1=t
  ·rw[zT h,if_pos (by rw[h];exact aM)];rfl
  ·rw[zF h,zD,zu (by omega)];dsimp only;rw[zrt l hl t m (j+1) k (by omega) (by omega)];by_cases h2:t∈(l.drop (j+1)).map (λv=>v.1)
   ·rw[if_pos h2,if_pos (aE _ h2)]
   ·rw[if_neg h2,if_neg (λh3=>(aD.1 h3).elim (λe=>h e.symm) h2)]
theorem Py(l:List eH)(hl:l.length<=maxLen)(t:Int):Q90 l (l.length:Int) t=some (decide (t∈l.map λv=>v.1)):=by
 rw[zh] at hl;unfold Q90 RZ;dsimp only;have:=zrt l hl t l.length 0 bG (by omega) (by rw[zv];omega);rw[show((0:Nat):Int)=(0:Int) from rfl,aN] at this;rw[this,au];by_cases h:t∈l.map λv=>v.1
 ·rw[if_pos h,zT h];rfl
 ·rw[if_neg h,zF h];rfl
theorem P6(b:af)(hb:b.size<=9223372036854775000):∀(k:Nat) (t5:List eH) (t7:Int),t5.length<=5864062014805->Ls k b t5 t7 (mR (t5.map λv=>v.1))=LK k b t5 t7
 |0,_,_,_=>rfl
 |k+1,t5,t7,hl=>by
  unfold Ls X4 LK Jy;rw[agO b hb];generalize decide (t7<(b.size:Int))=c0;cases c0 with
  |false=>rfl
  |true=>
   simp only[zC];cases KC b t7 with
   |none=>rfl
   |some r1=>
    simp only[au];generalize(!decide (r1.2.2=0))=c1;cases c1 with
    |true=>rfl
    |false=>
     simp only[zD];rw[afj b hb];cases KD b r1.2.1 with
     |none=>rfl
     |some r2=>
      simp only[au];generalize(!decide (r2.2.2=0))=c2;cases c2 with
      |true=>rfl
      |false=>
       simp only[zD];generalize decide (zW zI ((b.size:Int)-r2.2.1)<r2.1)=c3;cases c3 with
       |true=>rfl
       |false=>
        simp only[zD];rw[Py t5 (by rw[zh];omega),au];have e1:=VF (pf (.int .i64)) (λ_ _=>rfl) r1.1 (t5.map λv=>v.1);have e2:=VG (pf (.int .i64)) (λ_ _=>rfl) r1.1 (t5.map λv=>v.1);by_cases hm:r1.1∈t5.map λv=>v.1
        ·rw[e1.2 hm,zT hm];rfl
        ·rw[JW e1 hm,JW e2 hm,zF hm];simp only[zD];rw[z9h];have hs:(t5.map λv=>v.1)++ [r1.1]=(t5++ [((r1.1,(b.extract r2.2.1.toNat (zW zI (r2.2.1+r2.1)).toNat),()):eH)]).map λv=>v.1:=by simp
         rw[hs];by_cases hn:(t5.length+1)*24<=140737488355328
         ·rw[P6 b hb k _ _ (by simp;omega)]
         ·have:decide ((t5.length+(ag ([(r1.1,(b.extract r2.2.1.toNat (zW zI (r2.2.1+r2.1)).toNat),())]:List eH)))*24<=140737488355328)=false:=zF (by simp;omega);simp only[this,zD]
theorem agR(b:af)(hb:b.size<=9223372036854775000):BM b=KE b:=by unfold BM X3 KE Jx;dsimp only;have:=P6 b hb bG [] 0 (by simp);rw[show mR (([]:List eH).map λv=>v.1)=[] from rfl] at this;rw[this];rfl
theorem aii(s:Spec)(x:af)(hx:x.size<=9223372036854775000):gV s x=xt s x:=by unfold gV XI xt ZZ;rw[Sv,C6,aha _ _ (by rw[zh];omega),zci _ _ (by rw[zh];omega),agR x hx]
theorem acg(a b:Spec):uL a b=FQ a b:=by
 unfold uL XJ FQ Z0 DF XK;rw[Sv,C6,Sv,C6,aij,zcn];simp only[au];by_cases h1:gj a=0
 ·by_cases h2:gj b=0
  ·simp only[h1,h2,decide_true,zC,ai,zD];by_cases h3:a.2.2.2.1<=b.2.2.2.1
   ·rw[zT h3,zF (by omega:¬b.2.2.2.1<a.2.2.2.1)];by_cases h4:b.2.2.2.2.1<=a.2.2.2.2.1
    ·rw[zT h4,zF (by omega:¬a.2.2.2.2.1<b.2.2.2.2.1)];simp only[zC,zD];by_cases h5:a.2.1=5
     ·simp [h5]
     ·by_cases h6:a.2.1=6
      ·simp [h6]
      ·by_cases h7:b.2.1=6
       ·simp [h5,h6,h7]
       ·simp [h5,h6,h7]
    ·rw[zF h4,zT (by omega:a.2.2.2.2.1<b.2.2.2.2.1)];rfl
   ·rw[zF h3,zT (by omega:b.2.2.2.1<a.2.2.2.1)];rfl
  ·simp [h1,h2]
 ·simp [h1]
theorem agP(s:af)(hs:s.size<=9223372036854775000)(a:Int)(h0:0<=a)(h1:a<s.size):∃r,KC s a=some r/\(r.2.2=0->a<r.2.1/\r.2.1<=s.size):=by
 unfold KC Jv;have wa:∀{R:Type} (x:ae R),zd a s.size x=x:=λx=>zp (by omega) (by omega);rw[zF (by omega:¬a<0),zF (by omega:¬(s.size:Int)<a),zF (by omega:¬a=(s.size:Int))];simp only[zD,wa];obtain⟨x,hx⟩:=vr (z28 s a.toNat);have w1:zW zI (a+1)=a+1:=zj (by omega) (by omega);have w4:zW zI ((s.size:Int)-a)=(s.size:Int)-a:=zj (by omega) (by omega);rw[hx,w1,w4];rcases zd4 x with h|⟨h,H9⟩|⟨h,H9⟩
 ·rw[h];exact⟨_,rfl,λh=>by cases h⟩
 ·rw[h];exact⟨_,rfl,λ_=>⟨by show a<a+1;omega,by show a+1<=_;omega⟩⟩
 ·rw[h,au];simp only[show decide ((2:Int)=0)=false from rfl,show decide ((2:Int)=1)=false from rfl,zD];by_cases h4:(s.size:Int)-a<2
  ·rw[zT h4];exact⟨_,rfl,λh=>by cases h⟩
  ·have wb:∀{R:Type} (x:ae R),zd (a+1) s.size x=x:=λx=>zp (by omega) (by omega);have w2:zW zI (a+2)=a+2:=zj (by omega) (by omega);rw[zF h4];simp only[zD,wb];generalize decide (ze s (a+1).toNat=0)=c1;generalize decide ((127:Int)<ze s (a+1).toNat)=c2;cases c1
   ·cases c2
    ·exact⟨_,rfl,λ_=>⟨by show a<zW zI (a+2);rw[w2];omega,by show zW zI (a+2)<=_;rw[w2];omega⟩⟩
    ·exact⟨_,rfl,λh=>by cases h⟩
   ·exact⟨_,rfl,λh=>by cases h⟩
theorem afk(s:af)(hs:s.size<=9223372036854775000)(a:Int)(h0:0<=a)(h1:a<=s.size):∃r,KD s a=some r/\(r.2.2=0->a<r.2.1/\r.2.1<=s.size/\0<=r.1/\r.1<=65535):=by
 unfold KD Jw;rw[zF (by omega:¬a<0),zF (by omega:¬(s.size:Int)<a)];simp only[zD];by_cases he:a=(s.size:Int)
 ·rw[zT he];exact⟨_,rfl,λh=>by cases h⟩
 have wa:∀{R:Type} (x:ae R),zd a s.size x=x:=λx=>zp (by omega) (by omega);rw[zF he];simp only[zD,wa];obtain⟨x,hx⟩:=vr (z28 s a.toNat);have yN:=x.2;have w1:zW zI (a+1)=a+1:=zj (by omega) (by omega);have w2:zW zI (x.1:Int)=(x.1:Int):=zj (by omega) (by omega);have w4:zW zI ((s.size:Int)-a)=(s.size:Int)-a:=zj (by omega) (by omega);have w7:zW zI ((x.1:Int)-127)=(x.1:Int)-127:=zj (by omega) (by omega);simp only[hx,w2,w1,w4,w7];by_cases h4:(x.1:Int)<128
 ·rw[zT h4];exact⟨_,rfl,λ_=>⟨by show a<a+1;omega,by show a+1<=_;omega,by show(0:Int)<=(x.1:Int);omega,by show(x.1:Int)<=65535;omega⟩⟩
 rw[zF h4];have h08:∀i,zl (ze s i):=z28 s;by_cases h5:(x.1:Int)=129
 ·have wb:(s.size:Int)-a<(x.1:Int)-127\/∀{R:Type} (x:ae R),zd (a+1) s.size x=x:=by
   by_cases h:(s.size:Int)-a<(x.1:Int)-127
   ·exact .inl h
   ·exact .inr λx=>zp (by omega) (by omega)
  rw[zT h5];simp only[ai,zD,zC];by_cases h6:(s.size:Int)-a<(x.1:Int)-127
  ·rw[zT h6];exact⟨_,rfl,λh=>by cases h⟩
  ·have wb:∀{R:Type} (x:ae R),zd (a+1) s.size x=x:=λx=>zp (by omega) (by omega);have w8:zW zI (a+2)=a+2:=zj (by omega) (by omega);obtain⟨y,hy⟩:=vr (h08 (a+1).toNat);have UW:=y.2;have w3:zW zI (y.1:Int)=(y.1:Int):=zj (by omega) (by omega);rw[zF h6];simp only[zD,wb,hy,w3,w8];generalize decide ((y.1:Int)<128)=c;cases c
   ·exact⟨_,rfl,λ_=>⟨by show a<a+2;omega,by show a+2<=_;omega,by show(0:Int)<=(y.1:Int);omega,by show(y.1:Int)<=65535;omega⟩⟩
   ·exact⟨_,rfl,λh=>by cases h⟩
 ·rw[zF h5];simp only[aY,zD,zC];by_cases h9:(x.1:Int)=130
  ·rw[zT h9];simp only[ai,zD];by_cases h6:(s.size:Int)-a<(x.1:Int)-127
   ·rw[zT h6];exact⟨_,rfl,λh=>by cases h⟩
   ·have wb:∀{R:Type} (x:ae R),zd (a+1) s.size x=x:=λx=>zp (by omega) (by omega);have w8:zW zI (a+2)=a+2:=zj (by omega) (by omega);have w9:zW zI (a+3)=a+3:=zj (by omega) (by omega);have wd:∀{R:Type} (x:ae R),zd (a+2) s.size x=x:=λx=>zp (by omega) (by omega);obtain⟨y,hy⟩:=vr (h08 (a+1).toNat);obtain⟨z,hz⟩:=vr (h08 (a+2).toNat);have UW:=y.2;have hz2:=z.2;have w3:zW zI (y.1:Int)=(y.1:Int):=zj (by omega) (by omega);have OT:zW zI (z.1:Int)=(z.1:Int):=zj (by omega) (by omega);have w5':zW zI (256*(y.1:Int))=256*(y.1:Int):=zj (by omega) (by omega);have w6':zW zI (256*(y.1:Int)+(z.1:Int))=256*(y.1:Int)+(z.1:Int):=zj (by omega) (by omega);rw[zF h6];simp only[zD,wb,w8,wd,hy,hz,w3,OT,w5',w6',w9];generalize decide ((y.1:Int)=0)=c;cases c
    ·exact⟨_,rfl,λ_=>⟨by show a<a+3;omega,by show a+3<=_;omega,by show(0:Int)<=256*(y.1:Int)+(z.1:Int);omega,by show 256*(y.1:Int)+(z.1:Int)<=65535;omega⟩⟩
    ·exact⟨_,rfl,λh=>by cases h⟩
  ·rw[zF h9];exact⟨_,rfl,λh=>by cases h⟩
theorem z9k(b:af)(hb:b.size<=1099511627776):∀(n:Nat) (k:Nat) (t5:List eH) (a:Int),0<=a->a<=b.size->(b.size:Int)-a<=n->n<k->t5.length+n<=2199023255552->∃r,LK k b t5 a=some r
 |n,0,_,_,_,_,_,h,_=>by omega
 |n,k+1,t5,a,h0,h1,h2,h3,h4=>by
  unfold LK Jy;by_cases bR:a<(b.size:Int)
  ·obtain⟨r1,e1,p1⟩:=agP b (by omega) a h0 bR;rw[zT bR,e1,au,zC];by_cases z1:r1.2.2=0
   ·obtain⟨q1,q2⟩:=p1 z1;obtain⟨r2,e2,p2⟩:=afk b (by omega) r1.2.1 (by omega) q2;simp only[z1,decide_true,ai,zD];rw[e2,au];by_cases z2:r2.2.2=0
    ·obtain⟨u1,u2,u3,u4⟩:=p2 z2;simp only[z2,decide_true,ai,zD];have w1:zW zI ((b.size:Int)-r2.2.1)=(b.size:Int)-r2.2.1:=zj (by omega) (by omega);have w2:zW zI (r2.2.1+r2.1)=r2.2.1+r2.1:=zj (by omega) (by omega);rw[w1,w2];by_cases z3:(b.size:Int)-r2.2.1<r2.1
     ·rw[zT z3];exact⟨_,rfl⟩
     ·rw[zF z3,zD,Py t5 (by rw[zh];omega),au];generalize decide (r1.1∈t5.map λv=>v.1)=c;cases c with
      |true=>exact⟨_,rfl⟩
      |false=>
       rw[zD,zT (by omega:0<=r2.2.1+r2.1),zT (by omega:r2.2.1+r2.1<=(((b.size:Nat):Int))),zT (by omega:0<=r2.2.1),zT (by omega:r2.2.1<=(((r2.2.1+r2.1).toNat:Nat):Int)),zT (by simp;omega)];simp only[zC];obtain⟨n,rfl⟩:∃n',n=n'+1:=⟨n-1,by omega⟩
       exact z9k b hb n k _ _ (by omega) (by omega) (by omega) (by omega) (by simp;omega)
    ·simp only[z2,decide_false,aY,zC];exact⟨_,rfl⟩
   ·simp only[z1,decide_false,aY,zC];exact⟨_,rfl⟩
  ·rw[zF bR];exact⟨_,rfl⟩
theorem zn1(b:af)(hb:b.size<=1099511627776):∃r,KE b=some r:=by unfold KE Jx;dsimp only;obtain⟨r,hr⟩:=z9k b hb b.size bG [] 0 (by omega) (by omega) (by omega) (by rw[zv];omega) (by simp;omega);rw[hr,au];cases r<;>exact⟨_,rfl⟩
@[irreducible] def eS (s:Spec) (x:af):Int:=(xt s x).getD 0
theorem K8(s:Spec)(x:af)(hx:x.size<=1099511627776):xt s x=some (eS s x):=by
 have:∃v,xt s x=some v:=by
  unfold xt ZZ;rw[C6,au,zci _ _ (by rw[zh];omega),au];obtain⟨r,hr⟩:=zn1 x hx;rw[hr,au];generalize(!decide (gj s=0))=c1;generalize decide ((x.size:Int)<s.2.2.2.1)=c2;generalize decide (s.2.2.2.2.1<(x.size:Int))=c3;generalize decide ((0:Int)<=yZ s.2.1 (bl x) 0)=c4;generalize decide (s.2.1=6)=c5;cases c1<;>cases c2<;>cases c3<;>cases c4<;>cases c5<;>first|exact⟨_,rfl⟩|skip
  cases r with
  |inl r=>simp only[zD,zC,mu];cases(!decide (r.2.1=0))<;>exact⟨_,rfl⟩
  |inr r=>simp only[zD,zC,cj];cases(!decide (r.2.1=0))<;>exact⟨_,rfl⟩
 obtain⟨v,hv⟩:=this;unfold eS;rw[hv];rfl
theorem Fi(s:Spec)(x:af)(hx:x.size<=1099511627776):gV s x=some (eS s x):=by rw[aii s x (by omega),K8 s x hx]
@[irreducible] def tz (a b:Spec):Bool:=(FQ a b).getD false
theorem zco(a b:Spec):FQ a b=some (tz a b):=by
 have:∃v,FQ a b=some v:=by unfold FQ Z0;rw[C6,C6,zcn];simp only[au];generalize(!decide (gj a=0))=c1;generalize(!decide (gj b=0))=c2;generalize decide (b.2.2.2.1<a.2.2.2.1)=c3;generalize decide (a.2.2.2.2.1<b.2.2.2.2.1)=c4;generalize decide (a.2.1=5)=c5;generalize decide (a.2.1=6)=c6;generalize decide (b.2.1=6)=c7;cases c1<;>cases c2<;>cases c3<;>cases c4<;>cases c5<;>cases c6<;>cases c7<;>exact⟨_,rfl⟩
 obtain⟨v,hv⟩:=this;unfold tz;rw[hv];rfl
theorem afa(a b:Spec):uL a b=some (tz a b):=by rw[acg,zco]
abbrev dC:=Int×Int×Int×af×List eY×Unit
def cV(s:zf)(no:Int):Spec:=(pg s.2.2.1 no).getD lJ
def eK(s:zf)(no:Int):Bool:=(pg s.2.2.1 no).isSome
theorem Hp(s:zf)(no:Int)(hl:s.2.2.1.length<=maxLen):oU s no=some (cV s no,eK s no):=by rw[ajY s no hl];unfold cV eK;cases pg s.2.2.1 no<;>rfl
theorem VB(s:zf)(no:Int):(n6 s.2.2.1 no 0= -1/\eK s no=false/\cV s no=lJ)\/(0<=n6 s.2.2.1 no 0/\n6 s.2.2.1 no 0<s.2.2.1.length/\eK s no=true/\s.2.2.1.getD (n6 s.2.2.1 no 0).toNat lJ=cV s no):=by
 unfold eK cV;rcases adu s.2.2.1 no 0 (c9 _) with⟨h1,h2⟩|⟨h1,h2,x,h3,h4⟩
 ·left;rw[h2];exact⟨h1,rfl,rfl⟩
 ·right;rw[h3];rw[Int.sub_zero] at h4;exact⟨h1,by omega,rfl,h4⟩
def lg(r:dC)(a b:zf):Bool:=
 (bif decide (r.1=3) then !decide (r.2.1=0) else !eK a r.2.1)||(bif decide (r.1=2) then !decide (r.2.2.1=0) else !eK b r.2.2.1)
def p8(r:dC):Bool:=(!decide (r.2.2.2.1=bs [])&& !decide (r.1=3))||(decide (0<(r.2.2.2.2.1.length:Int))&& !decide (r.1=5))
def pQ(s:Spec):Bool:=decide (s.2.1=1)&&decide (s.2.2.1=1)
def nu:List eY->Spec->Spec->Int
 | [],_,_=>0
 |p::r,x,y=>bif !decide (eS x p.1=0) then eS x p.1 else bif !decide (eS y p.2.1=0) then eS y p.2.1 else nu r x y
def LP(l:List eY)(x y:Spec):Int:=bif(!decide ((zA l).1=0)||decide ((l.length:Int)=0)) then 15 else nu l x y
def qR(r:dC)(x y:Spec):Int:=
 bif decide (r.1=1) then(bif tz y x then 0 else 6) else bif decide (r.1=3) then eS y r.2.2.2.1 else bif decide (r.1=4) then(bif pQ x&&pQ y then 0 else 6) else bif decide (r.1=5) then LP r.2.2.2.2.1 x y else 0
def lI(r:dC)(a b:zf):Int:=
 bif decide (r.1<1)||decide (5<r.1) then 1 else bif lg r a b then 9 else bif p8 r then 3 else qR r (cV a r.2.1) (cV b r.2.2.1)
structure nF(l:List eY):Prop where
 len:l.length<=1000000
 sz:∀p∈l,p.1.size<=1099511627776/\p.2.1.size<=1099511627776
structure oW(r:dC):Prop where
 text:r.2.2.2.1.size<=1099511627776
 n9:nF r.2.2.2.2.1
theorem alF(r:dC)(a b:zf)(ha:a.2.2.1.length<=maxLen)(hb:b.2.2.1.length<=maxLen):BE r a b=some (cV a r.2.1,cV b r.2.2.1,bif lg r a b then 9 else 0):=by unfold BE Xp lg;rw[Hp a _ ha,Hp b _ hb];simp only[au];generalize decide (r.1=3)=k3;generalize decide (r.1=2)=k2;generalize decide (r.2.1=0)=z1;generalize decide (r.2.2.1=0)=z2;generalize eK a r.2.1=h1;generalize eK b r.2.2.1=h2;cases k3<;>cases k2<;>cases z1<;>cases z2<;>cases h1<;>cases h2<;>rfl
theorem agq(s:Spec):rZ s=some (pQ s):=by unfold rZ Xq pQ;generalize decide (s.2.1=1)=c1;generalize decide (s.2.2.1=1)=c2;cases c1<;>cases c2<;>rfl
def E9(v:Int):Sum Int Unit:=if v=0 then .inr () else .inl v
theorem zzv(x y:Spec):∀(l:List eY) (i:Int),(∀p∈l,p.1.size<=1099511627776/\p.2.1.size<=1099511627776)->
 fD (λi (p:eY) (s:Unit) K=>((gV x p.1).bind λr2=>(bif(!decide (r2=0)) then some (Sum.inl r2) else((gV y p.2.1).bind λr3=>(bif(!decide (r3=0)) then some (Sum.inl r3) else K s))))) (λ_=>some (Sum.inr ())) l i ()=some (E9 (nu l x y))
 | [],i,_=>rfl
 |p::r,i,h=>by
  obtain⟨h1,h2⟩:=h p aM;simp only[fD,nu];rw[Fi x p.1 h1,au];by_cases z1:eS x p.1=0
  ·rw[zT z1];simp only[ai,zD];rw[Fi y p.2.1 h2,au];by_cases z2:eS y p.2.1=0
   ·rw[zT z2];simp only[ai,zD];exact zzv x y r (i+1) λq hq=>h q (aE _ hq)
   ·rw[zF z2];simp only[aY,zC,E9,if_neg z2]
  ·rw[zF z1];simp only[aY,zC,E9,if_neg z1]
theorem ajL(l:List eY)(x y:Spec)(h:nF l):vF l x y=some (LP l x y):=by
 have hl:=h.len;unfold vF Xt LP;dsimp only;rw[z107 l (by rw[zh];omega),au];cases(!decide ((zA l).1=0)) with
 |true=>rfl
 |false=>
  cases decide ((l.length:Int)=0) with
  |true=>rfl
  |false=>
   simp only[zD,j4];have:=jJ ux l (by rw[zh];omega) (λi (p:eY) (s:Unit) K=>((gV x p.1).bind λr2=>(bif(!decide (r2=0)) then some (Sum.inl r2) else((gV y p.2.1).bind λr3=>(bif(!decide (r3=0)) then some (Sum.inl r3) else K s))))) (λ_=>some (Sum.inr ()))
    (λk i s=>Tv k l (l.length:Int) i x y) (λk i s=>rfl) ()
   rw[this,zzv x y l 0 h.sz,au];unfold E9;by_cases z:nu l x y=0
   ·rw[if_pos z,z];rfl
   ·rw[if_neg z];rfl
theorem ace(r:dC)(a b:zf)(h:oW r)(ha:a.2.2.1.length<=maxLen)(hb:b.2.2.1.length<=maxLen):xm r a b=some (lI r a b):=by
 unfold xm Xo lI qR p8;rw[alF r a b ha hb];simp only[au,afa,Fi _ _ h.text,agq,ajL _ _ _ h.n9];generalize lg r a b=e;generalize decide (r.1<1)=c1;generalize decide ((5:Int)<r.1)=c2;generalize decide (r.2.2.2.1=bs [])=t;generalize decide ((0:Int)<(r.2.2.2.2.1.length:Int))=p;generalize decide (r.1=1)=k1;generalize decide (r.1=3)=k3;generalize decide (r.1=4)=k4;generalize decide (r.1=5)=k5;generalize pQ (cV a r.2.1)=p1;generalize pQ (cV b r.2.2.1)=p2;generalize tz (cV b r.2.2.1) (cV a r.2.1)=w;cases c1<;>cases c2<;>first|rfl|skip
 cases e<;>first|rfl|skip
 cases t<;>cases p<;>cases k3<;>cases k5<;>first|rfl|skip
 all_goals(cases k1<;>cases k4<;>cases p1<;>cases p2<;>cases w<;>rfl)
def wL(v:Int):Sum Unit Int:=if v=0 then .inl () else .inr v
theorem zst(x y:Spec):∀(l:List eY) (i:Int),(∀p∈l,p.1.size<=1099511627776/\p.2.1.size<=1099511627776)->
 fD (λi (p:eY) (s:Unit) K=>((xt x p.1).bind λr2=>(bif(!decide (r2=0)) then some (Sum.inr r2) else((xt y p.2.1).bind λr3=>(bif(!decide (r3=0)) then some (Sum.inr r3) else K s))))) (λ_=>some (Sum.inl ())) l i ()=some (wL (nu l x y))
 | [],i,_=>rfl
 |p::r,i,h=>by
  obtain⟨h1,h2⟩:=h p aM;simp only[fD,nu];rw[K8 x p.1 h1,au];by_cases z1:eS x p.1=0
  ·rw[zT z1];simp only[ai,zD];rw[K8 y p.2.1 h2,au];by_cases z2:eS y p.2.1=0
   ·rw[zT z2];simp only[ai,zD];exact zst x y r (i+1) λq hq=>h q (aE _ hq)
   ·rw[zF z2];simp only[aY,zC,wL,if_neg z2]
  ·rw[zF z1];simp only[aY,zC,wL,if_neg z1]
theorem abZ(r:dC)(a b:zf)(h:oW r)(i k:Int)(Ir:0<=i)(hi:i<a.2.2.1.length)(GH:0<=k)(hk:k<b.2.2.1.length):
 Hu bG i k 0 r a b=some (wL (nu r.2.2.2.2.1 (a.2.2.1.getD i.toNat lJ) (b.2.2.1.getD k.toNat lJ))):=by
 have hl:=h.n9.len;have:=G4 ux r.2.2.2.2.1 (by rw[zh];omega) (λj (p:eY) (s:Unit) K=>((xt (a.2.2.1.getD i.toNat lJ) p.1).bind λr2=>(bif(!decide (r2=0)) then some (Sum.inr r2) else((xt (b.2.2.1.getD k.toNat lJ) p.2.1).bind λr3=>(bif(!decide (r3=0)) then some (Sum.inr r3) else K s))))) (λ_=>some (Sum.inl ()))
  (λf j s=>Hu f i k j r a b) (λf j s h0 h1=>by
    show Hu (f+1) i k j r a b=_
    conv=>lhs;unfold Hu zn4 O6 O7 O8
    have wi:∀{R:Type} (x:ae R),zd i a.2.2.1.length x=x:=λx=>zp Ir hi;have wk:∀{R:Type} (x:ae R),zd k b.2.2.1.length x=x:=λx=>zp GH hk;have wj:∀{R:Type} (x:ae R),zd j r.2.2.2.2.1.length x=x:=λx=>zp h0 h1;rw[zT h1];simp only[zC,wi,wk,wj];rfl) (λf s=>by
    show Hu (f+1) i k r.2.2.2.2.1.length r a b=_
    conv=>lhs;unfold Hu zn4
    rw[zF (by omega),zD]) ()
 rw[this];exact zst _ _ _ 0 h.n9.sz
theorem acU(r:dC)(a b:zf)(h:oW r)(ha:a.2.2.1.length<=maxLen)(hb:b.2.2.1.length<=maxLen):HQ r a b=some (lI r a b):=by
 unfold HQ Qp;have h0:∀t,z168 t r a b=bif t then some 1 else zt7 r a b:=λt=>by cases t<;>rfl
 simp only[h0];unfold lI;by_cases c1:r.1<1
 ·rw[zT c1];rfl
 by_cases c2:(5:Int)<r.1
 ·rw[zF c1,zT c2];rfl
 rw[zF c1,zF c2];simp only[zD,j4];have e2:∀i k t,J5 i k t r a b=bif t then some 9 else V7 i k r a b:=λi k t=>by cases t<;>rfl
 have e4:∀i k t,Qm i k t r a b=bif t then some 9 else z87 i k r a b:=λi k t=>by cases t<;>rfl
 have e6:∀i k t,Qn i k t r a b=bif t then some 3 else V8 i k r a b:=λi k t=>by cases t<;>rfl
 have e9:∀t,Qo t=some (bif t then 6 else 0):=λt=>by cases t<;>rfl
 have hi:=VB a r.2.1;have hk:=VB b r.2.2.1;have ei:decide (n6 a.2.2.1 r.2.1 0<0)= !eK a r.2.1:=by
  rcases hi with⟨h1,h2,_⟩|⟨h1,_,h2,_⟩
  ·rw[h1,h2];rfl
  ·rw[h2,zF (by omega)];rfl
 have ek:decide (n6 b.2.2.1 r.2.2.1 0<0)= !eK b r.2.2.1:=by
  rcases hk with⟨h1,h2,_⟩|⟨h1,_,h2,_⟩
  ·rw[h1,h2];rfl
  ·rw[h2,zF (by omega)];rfl
 unfold zt7 Qq;rw[Vu a _ ha,au,Vu b _ hb,au];generalize NL:n6 a.2.2.1 r.2.1 0=i at*;generalize hkk:n6 b.2.2.1 r.2.2.1 0=k at*;have s3:V7 i k r a b=bif(bif decide (r.1=2) then !decide (r.2.2.1=0) else !eK b r.2.2.1) then some 9 else z87 i k r a b:=by unfold V7 Qr;simp only[e4,ek];generalize decide (r.1=2)=k2;generalize decide (r.2.2.1=0)=z;generalize eK b r.2.2.1=hh;cases k2<;>cases z<;>cases hh<;>rfl
 have s1:(bif decide (r.1=3) then bif !decide (r.2.1=0) then J5 i k true r a b else bif !decide (r.1=3) then J5 i k (decide (i<0)) r a b else J5 i k false r a b
  else bif !decide (r.1=3) then J5 i k (decide (i<0)) r a b else J5 i k false r a b)=bif lg r a b then some 9 else z87 i k r a b:=by
  simp only[e2,s3,ei];unfold lg;generalize decide (r.1=3)=k3;generalize decide (r.2.1=0)=z;generalize eK a r.2.1=hh;generalize(bif decide (r.1=2) then !decide (r.2.2.1=0) else !eK b r.2.2.1)=w;cases k3<;>cases z<;>cases hh<;>cases w<;>rfl
 have s5:z87 i k r a b=bif p8 r then some 3 else V8 i k r a b:=by unfold z87 Qs p8;simp only[e6];generalize decide (r.2.2.2.1=bs [])=t;generalize decide ((0:Int)<(r.2.2.2.2.1.length:Int))=p;generalize decide (r.1=3)=k3;generalize decide (r.1=5)=k5;cases t<;>cases p<;>cases k3<;>cases k5<;>rfl
 refine Eq.trans s1 ?_;cases hE:lg r a b with
 |true=>rfl
 |false=>
  rw[zD,zD,s5];cases p8 r with
  |true=>rfl
  |false=>
   rw[zD,zD];unfold V8 Qt qR;have g1:r.1=1\/r.1=4\/r.1=5->eK a r.2.1=true:=λhr=>by
    unfold lg at hE;rw[zF (by omega:¬r.1=3)] at hE;cases hh:eK a r.2.1 with
    |true=>rfl
    |false=>rw[hh] at hE;simp at hE
   have g2:r.1≠2->eK b r.2.2.1=true:=λhr=>by
    unfold lg at hE;rw[zF hr] at hE;cases hh:eK b r.2.2.1 with
    |true=>rfl
    |false=>rw[hh] at hE;simp at hE
   have hA:eK a r.2.1=true->0<=i/\i<a.2.2.1.length/\a.2.2.1.getD i.toNat lJ=cV a r.2.1:=λhh=>by
    rcases hi with⟨_,h2,_⟩|⟨h1,h2,_,h3⟩
    ·rw[h2] at hh;cases hh
    ·exact⟨h1,h2,h3⟩
   have hB:eK b r.2.2.1=true->0<=k/\k<b.2.2.1.length/\b.2.2.1.getD k.toNat lJ=cV b r.2.2.1:=λhh=>by
    rcases hk with⟨_,h2,_⟩|⟨h1,h2,_,h3⟩
    ·rw[h2] at hh;cases hh
    ·exact⟨h1,h2,h3⟩
   by_cases k1:r.1=1
   ·obtain⟨a1,a2,a3⟩:=hA (g1 (.inl k1));obtain⟨b1,b2,b3⟩:=hB (g2 (by omega));rw[zT k1,zC,zC,zp b1 b2,zp a1 a2,a3,b3,zco,au];cases tz (cV b r.2.2.1) (cV a r.2.1)<;>rfl
   rw[zF k1,zD,zD];by_cases k3:r.1=3
   ·obtain⟨b1,b2,b3⟩:=hB (g2 (by omega));rw[zT k3,zC,zC,zp b1 b2,b3,K8 _ _ h.text];rfl
   rw[zF k3,zD,zD];by_cases k4:r.1=4
   ·obtain⟨a1,a2,a3⟩:=hA (g1 (.inr (.inl k4)));obtain⟨b1,b2,b3⟩:=hB (g2 (by omega));rw[zT k4,zC,zC,zp a1 a2,zp b1 b2];simp only[a3,b3,e9];unfold pQ;generalize decide ((cV a r.2.1).2.1=1)=d1;generalize decide ((cV a r.2.1).2.2.1=1)=d2;generalize decide ((cV b r.2.2.1).2.1=1)=d3;generalize decide ((cV b r.2.2.1).2.2.1=1)=d4;cases d1<;>cases d2<;>cases d3<;>cases d4<;>rfl
   rw[zF k4,zD,zD];by_cases k5:r.1=5
   ·obtain⟨a1,a2,a3⟩:=hA (g1 (.inr (.inr k5)));obtain⟨b1,b2,b3⟩:=hB (g2 (by omega));have KJ:∀t,O4 i k t r a b=bif t then some 15 else VO i k r a b:=λt=>by cases t<;>rfl
    have KK:VO i k r a b=some (nu r.2.2.2.2.1 (cV a r.2.1) (cV b r.2.2.1)):=by
     unfold VO O5;dsimp only;rw[abZ r a b h i k a1 a2 b1 b2,au,a3,b3];unfold wL;by_cases z:nu r.2.2.2.2.1 (cV a r.2.1) (cV b r.2.2.1)=0
     ·rw[if_pos z,z];rfl
     ·rw[if_neg z];rfl
    have hl:=h.n9.len;rw[zT k5,zC,zC,acT _ (by rw[zh];omega),au];simp only[KJ,KK];unfold LP;generalize(!decide ((zA r.2.2.2.2.1).1=0))=d1;generalize decide ((r.2.2.2.2.1.length:Int)=0)=d2;cases d1<;>cases d2<;>rfl
   ·rw[zF k5];rfl
@[irreducible] def CL (x:af):Int:=((KE x).map λr=>aI (λ(w:cN×Int×Int)=>w.2.1) (λ(w:cN×Int×Int)=>w.2.1) r).getD 0
theorem Hs(s:Spec)(x:af)(hx:x.size<=1099511627776):eS s x=0↔gj s=0/\s.2.2.2.1<=(x.size:Int)/\(x.size:Int)<=s.2.2.2.2.1/\(bl x).all (sE s.2.1)=true/\(s.2.1=6->CL x=0):=by
 have h:=K8 s x hx;unfold xt ZZ at h;rw[C6,au,zci _ _ (by rw[zh];omega),au] at h;obtain⟨r,hr⟩:=zn1 x hx;have ht:CL x=aI (λ(w:cN×Int×Int)=>w.2.1) (λ(w:cN×Int×Int)=>w.2.1) r:=by unfold CL;rw[hr];rfl
 rw[hr,au] at h;by_cases c1:gj s=0
 ·rw[zT c1,ai,zD] at h;by_cases c2:(x.size:Int)<s.2.2.2.1
  ·rw[zT c2,zC] at h;have:=cE h;exact⟨λe=>by omega,λe=>by omega⟩
  rw[zF c2,zD] at h;by_cases c3:s.2.2.2.2.1<(x.size:Int)
  ·rw[zT c3,zC] at h;have:=cE h;exact⟨λe=>by omega,λe=>by omega⟩
  rw[zF c3,zD] at h;have hf:=zmi s.2.1 (bl x) 0 (c9 _);by_cases c4:(0:Int)<=yZ s.2.1 (bl x) 0
  ·rw[zT c4,zC] at h;have:=cE h;exact⟨λe=>by omega,λe=>absurd e.2.2.2.1 (hf.1 c4)⟩
  rw[zF c4,zD] at h;have kR:(bl x).all (sE s.2.1)=true:=by
   cases hq:(bl x).all (sE s.2.1) with
   |true=>rfl
   |false=>exact absurd (hf.2 (by rw[hq];decide)) c4
  by_cases c5:s.2.1=6
  ·rw[zT c5,zC] at h;have key:(bif(!decide (CL x=0)) then some (13:Int) else some 0)=some (eS s x):=by
    rw[<-h];cases r with
    |inl r=>rw[mu] at ht⊢;rw[<-ht]
    |inr r=>rw[cj] at ht⊢;rw[<-ht]
   by_cases c6:CL x=0
   ·rw[zT c6] at key;have:=cE key;exact⟨λ_=>⟨c1,by omega,by omega,kR,λ_=>c6⟩,λ_=>this.symm⟩
   ·rw[zF c6] at key;have:=cE key;exact⟨λe=>by omega,λe=>absurd (e.2.2.2.2 c5) c6⟩
  ·rw[zF c5,zD] at h;have:=cE h;exact⟨λ_=>⟨c1,by omega,by omega,kR,λe=>absurd e c5⟩,λ_=>this.symm⟩
 ·rw[zF c1,aY,zC] at h;have:=cE h;exact⟨λe=>by omega,λe=>absurd e.1 c1⟩
theorem ajU(a b:Spec):tz a b=true↔gj a=0/\gj b=0/\a.2.2.2.1<=b.2.2.2.1/\b.2.2.2.2.1<=a.2.2.2.2.1/\(a.2.1=5\/(a.2.1=6/\b.2.1=6)\/(a.2.1≠5/\a.2.1≠6/\b.2.1≠6/\FB a.2.1 b.2.1=true)):=by
 have h:=zco a b;unfold FQ Z0 at h;rw[C6,C6,zcn] at h;simp only[au] at h;by_cases c1:gj a=0
 ·rw[zT c1,ai,zD] at h;by_cases c2:gj b=0
  ·rw[zT c2,ai,zD] at h;by_cases c3:b.2.2.2.1<a.2.2.2.1
   ·rw[zT c3,zC] at h;have:=cE h;exact⟨λe=>(by rw[e] at this;cases this),λe=>by omega⟩
   rw[zF c3,zD] at h;by_cases c4:a.2.2.2.2.1<b.2.2.2.2.1
   ·rw[zT c4,zC] at h;have:=cE h;exact⟨λe=>(by rw[e] at this;cases this),λe=>by omega⟩
   rw[zF c4,zD] at h;by_cases c5:a.2.1=5
   ·rw[zT c5,zC] at h;have:=cE h;exact⟨λ_=>⟨c1,c2,by omega,by omega,.inl c5⟩,λ_=>this.symm⟩
   rw[zF c5,zD] at h;by_cases c6:a.2.1=6
   ·rw[zT c6,zC] at h;have:=cE h;rw[<-this,decide_eq_true_eq];exact⟨λe=>⟨c1,c2,by omega,by omega,.inr (.inl ⟨c6,by omega⟩)⟩,λe=>by omega⟩
   rw[zF c6,zD] at h;by_cases c7:b.2.1=6
   ·rw[zT c7,zC] at h;have:=cE h;rw[<-this,decide_eq_true_eq];exact⟨λe=>by omega,λe=>by omega⟩
   rw[zF c7,zD] at h;have:=cE h;rw[<-this];refine⟨λe=>⟨c1,c2,by omega,by omega,.inr (.inr ⟨c5,c6,c7,e⟩)⟩,λe=> ?_⟩;rcases e.2.2.2.2 with e|e|e
   ·exact absurd e c5
   ·exact absurd e.1 c6
   ·exact e.2.2.2
  ·rw[zF c2,aY,zC] at h;have:=cE h;exact⟨λe=>(by rw[e] at this;cases this),λe=>absurd e.2.1 c2⟩
 ·rw[zF c1,aY,zC] at h;have:=cE h;exact⟨λe=>(by rw[e] at this;cases this),λe=>absurd e.1 c1⟩
theorem Vl{s:Spec}(h:gj s=0):(2<=s.1/\s.1<=128)/\(1<=s.2.1/\s.2.1<=6)/\(1<=s.2.2.1/\s.2.2.1<=3)/\(1<=s.2.2.2.1/\s.2.2.2.1<=s.2.2.2.2.1/\s.2.2.2.2.1<=999)/\(s.2.2.1=1->s.2.2.2.1=s.2.2.2.2.1)/\¬(s.2.2.1=1/\s.2.1=6):=by
 unfold gj at h;split at h
 ·omega
 split at h
 ·omega
 split at h
 ·omega
 split at h
 ·omega
 split at h
 ·omega
 ·omega
theorem al5:∀a b:Fin 7,FB (a.1:Int) (b.1:Int)=true->a.1≠5->a.1≠6->b.1≠6->(a.1=b.1\/(a.1=3/\(b.1=1\/b.1=2))\/(a.1=4/\(b.1=1\/b.1=2\/b.1=3))):=by decide+kernel
theorem ag0{a b:Int}(h:FB a b=true)(h5:a≠5)(h6:a≠6)(h7:b≠6):a=b\/(a=3/\(b=1\/b=2))\/(a=4/\(b=1\/b=2\/b=3)):=by
 have hr:1<=a/\a<=6/\1<=b/\b<=6:=by unfold FB at h;rw[ap,decide_eq_true_eq] at h;exact h.1
 obtain⟨x,rfl⟩:=Z7 ⟨hr.1,hr.2.1⟩;obtain⟨y,rfl⟩:=Z7 ⟨hr.2.2.1,hr.2.2.2⟩;have:=al5 x y h (by omega) (by omega) (by omega);omega
theorem ai8{a b x:Int}(h:a=b\/(a=3/\(b=1\/b=2))\/(a=4/\(b=1\/b=2\/b=3)))(hx:sE b x=true):sE a x=true:=by
 rcases h with rfl|⟨rfl,rfl|rfl⟩|⟨rfl,rfl|rfl|rfl⟩
 ·exact hx
 all_goals
  simp [sE] at hx⊢;omega
theorem ai7(x:Int):sE 5 x=true:=by simp [sE]
theorem adX{y x:Spec}{t:af}(ht:t.size<=1099511627776)(hw:tz y x=true)(hv:eS x t=0):eS y t=0:=by
 obtain⟨w1,w2,w3,w4,w5⟩:=(ajU y x).1 hw;obtain⟨v1,v2,v3,v4,v5⟩:=(Hs x t ht).1 hv;refine(Hs y t ht).2 ⟨w1,by omega,by omega,?_,?_⟩
 ·rcases w5 with e|e|e
  ·rw[e,aR];exact λb _=>ai7 b
  ·rw[e.1,<-e.2];exact v4
  ·rw[aR] at v4⊢;exact λb hb=>ai8 (ag0 e.2.2.2 e.1 e.2.1 e.2.2.1) (v4 b hb)
 ·intro e6;rcases w5 with e|e|e
  ·omega
  ·exact v5 e.2
  ·exact absurd e6 e.2.1
theorem alN:sE 1=jZ:=by funext b;simp [sE,jZ]
theorem zwy(l:List Int):l.all (sE 1)=eJ l:=by rw[alN];rfl
theorem Rr{t:af}{w:Int}(h:(lN t w).2=true):1<=w/\w<=999/\(((lN t w).1).size:Int)=w/\eJ (bl (lN t w).1)=true:=by
 by_cases hc:1<=t.size/\t.size<=999/\eJ (bl t)=true/\1<=w/\w<=999
 ·rw[zsc hc] at h⊢;by_cases h4:(t.size:Int)<=w
  ·rw[zT h4,zC];have hd:eJ (aw (w-t.size).toNat 48++bl t)=true:=by
    have e:eJ (aw (w-t.size).toNat 48++bl t)=(eJ (aw (w-t.size).toNat 48)&&eJ (bl t)):=jj ..;have e2:eJ (aw (w-t.size).toNat 48)=true:=by rw[eJ,aR];intro x hx;rw[(List.mem_replicate.1 hx).2];rfl
    rw[e,e2,hc.2.2.1];rfl
   refine⟨hc.2.2.2.1,hc.2.2.2.2,?_,?_⟩
   ·rw[wM,aF,fN,zg];omega
   ·rw[wO (SU hd)];exact hd
  ·rw[zF h4,zD] at h⊢;cases hz:oi ((bl t).take (t.size-w.toNat)) with
   |false=>rw[hz] at h;cases h
   |true=>
    rw[zC];have hd:eJ ((bl t).drop (t.size-w.toNat))=true:=by rw[eJ,aR];intro x hx;exact aR.1 hc.2.2.1 x (eX hx)
    refine⟨hc.2.2.2.1,hc.2.2.2.2,?_,?_⟩
    ·rw[wM,bF,zg];omega
    ·rw[wO (SU hd)];exact hd
 ·rw[LO hc] at h;cases h
theorem zsd{s:Spec}(h:pQ s=true):s.2.1=1/\s.2.2.1=1:=by unfold pQ at h;rw[ap,decide_eq_true_eq,decide_eq_true_eq] at h;exact h
abbrev tv:eH:=(0,bs [],())
def zt(r:dC)(b:zf)(t:af):eH×Int:=
 bif decide (r.1=1) then((r.2.2.1,t,()),0) else bif decide (r.1=2) then(tv,0) else bif decide (r.1=3) then((r.2.2.1,r.2.2.2.1,()),0)
 else bif decide (r.1=4) then(bif !eK b r.2.2.1 then(tv,9) else bif !(lN t (cV b r.2.2.1).2.2.2.1).2 then(tv,5) else((r.2.2.1,(lN t (cV b r.2.2.1).2.2.2.1).1,()),0))
 else bif decide (r.1=5) then(bif !(zr r.2.2.2.2.1 t).2 then(tv,15) else((r.2.2.1,(zr r.2.2.2.2.1 t).1,()),0)) else(tv,1)
theorem z143(r:dC)(b:zf)(t:af)(hp:r.2.2.2.2.1.length<=maxLen)(hb:b.2.2.1.length<=maxLen)(ht:t.size<=maxLen):xl r b t=some (zt r b t):=by unfold xl Xn zt;rw[Hp b _ hb,au,al7 t _ ht,au,abK _ _ hp,au];generalize decide (r.1=1)=k1;generalize decide (r.1=2)=k2;generalize decide (r.1=3)=k3;generalize decide (r.1=4)=k4;generalize decide (r.1=5)=k5;generalize eK b r.2.2.1=h;generalize lN t (cV b r.2.2.1).2.2.2.1=p;generalize zr r.2.2.2.2.1 t=q;obtain⟨p1,p2⟩:=p;obtain⟨q1,q2⟩:=q;cases k1<;>cases k2<;>cases k3<;>cases k4<;>cases k5<;>cases h<;>cases p2<;>cases q2<;>rfl
theorem VV{s:zf}{no:Int}(h:eK s no=true):cV s no∈s.2.2.1/\(cV s no).1=no:=by
 unfold eK at h;unfold cV;cases hf:pg s.2.2.1 no with
 |none=>rw[hf] at h;cases h
 |some x=>unfold pg at hf;exact⟨cu hf,by simpa using kV hf⟩
theorem SQ{s:zf}(h:pL s){no:Int}(hh:eK s no=true):gj (cV s no)=0:=h.2.2.2.1 _ (VV hh).1
theorem Vn{l:List eY}{t:af}(h:(zr l t).2=true):∃p∈l,p.1=t/\(zr l t).1=p.2.1:=by
 unfold zr at h⊢;cases hf:l.find? λp=>decide (p.1=t) with
 |none=>rw[hf] at h;cases h
 |some p=>exact⟨p,cu hf,by simpa using kV hf,rfl⟩
theorem OW:∀{l:List eY} {x y:Spec},nu l x y=0->∀p∈l,eS x p.1=0/\eS y p.2.1=0
 | [],x,y,h,p,hp=>by cases hp
 |q::l,x,y,h,p,hp=>by
  unfold nu at h;by_cases h1:eS x q.1=0
  ·rw[zT h1,ai,zD] at h;by_cases h2:eS y q.2.1=0
   ·rw[zT h2,ai,zD] at h;rcases aD.1 hp with rfl|hp
    ·exact⟨h1,h2⟩
    ·exact OW h p hp
   ·rw[zF h2,aY,zC] at h;exact absurd h h2
  ·rw[zF h1,aY,zC] at h;exact absurd h h1
theorem Vs{r:dC}{a b:zf}(h:lI r a b=0):(1<=r.1/\r.1<=5)/\lg r a b=false/\p8 r=false/\qR r (cV a r.2.1) (cV b r.2.2.1)=0:=by
 unfold lI at h;by_cases c1:r.1<1
 ·rw[zT c1] at h;cases h
 by_cases c2:5<r.1
 ·rw[zT c2,Bool.or_true] at h;cases h
 rw[zF c1,zF c2,j4,zD] at h;cases he:lg r a b with
 |true=>rw[he] at h;cases h
 |false=>
  rw[he,zD] at h;cases ht:p8 r with
  |true=>rw[ht] at h;cases h
  |false=>rw[ht,zD] at h;exact⟨by omega,rfl,rfl,h⟩
theorem zgq{r:dC}{a b:zf}(h:lg r a b=false):(r.1=3->r.2.1=0)/\(r.1≠3->eK a r.2.1=true)/\(r.1=2->r.2.2.1=0)/\(r.1≠2->eK b r.2.2.1=true):=by
 unfold lg at h;rw[cR] at h;obtain⟨h1,h2⟩:=h;refine⟨λe=> ?_,λe=> ?_,λe=> ?_,λe=> ?_⟩
 ·rw[zT e,zC] at h1;simpa using h1
 ·rw[zF e,zD] at h1;simpa using h1
 ·rw[zT e,zC] at h2;simpa using h2
 ·rw[zF e,zD] at h2;simpa using h2
theorem z152{r:dC}{a b:zf}{t:af}(ht:t.size<=1099511627776)(hr:oW r)(hc:lI r a b=0)(hb:pL b)(hv:eK a r.2.1=true->eS (cV a r.2.1) t=0):
 ((zt r b t).2≠0->((r.1=4/\(zt r b t).2=5)\/(r.1=5/\(zt r b t).2=15))/\(zt r b t).1=tv)/\
 ((zt r b t).2=0->(r.1=2->(zt r b t).1=tv)/\(r.1≠2->(zt r b t).1.1=r.2.2.1/\eK b r.2.2.1=true/\eS (cV b r.2.2.1) (zt r b t).1.2.1=0)):=by
 obtain⟨c1,c2,c3,c4⟩:=Vs hc;obtain⟨e1,e2,e3,e4⟩:=zgq c2;unfold qR at c4;have hk:r.1=1\/r.1=2\/r.1=3\/r.1=4\/r.1=5:=by omega
 unfold zt;rcases hk with k|k|k|k|k
 ·rw[zT k,zC] at c4⊢;refine⟨λh=>absurd rfl h,λ_=>⟨λe=>by omega,λ_=>⟨rfl,e4 (by omega),?_⟩⟩⟩;cases hw:tz (cV b r.2.2.1) (cV a r.2.1) with
  |false=>rw[hw] at c4;cases c4
  |true=>exact adX ht hw (hv (e2 (by omega)))
 ·rw[zF (by omega:¬r.1=1),zT k,zD,zC];exact⟨λh=>absurd rfl h,λ_=>⟨λ_=>rfl,λe=>absurd k e⟩⟩
 ·rw[zF (by omega:¬r.1=1),zT k,zD,zC] at c4;rw[zF (by omega:¬r.1=1),zF (by omega:¬r.1=2),zT k,zD,zD,zC];exact⟨λh=>absurd rfl h,λ_=>⟨λe=>by omega,λ_=>⟨rfl,e4 (by omega),c4⟩⟩⟩
 ·rw[zF (by omega:¬r.1=1),zF (by omega:¬r.1=3),zT k,zD,zD,zC] at c4;rw[zF (by omega:¬r.1=1),zF (by omega:¬r.1=2),zF (by omega:¬r.1=3),zT k,zD,zD,zD,zC,e4 (by omega),ai,zD];have hy:=SQ hb (e4 (by omega));have hpd:pQ (cV b r.2.2.1)=true:=by
   cases hp:(pQ (cV a r.2.1)&&pQ (cV b r.2.2.1)) with
   |false=>rw[hp] at c4;cases c4
   |true=>exact(Bool.and_eq_true_iff.1 hp).2
  obtain⟨y1,y2⟩:=zsd hpd;obtain⟨_,_,_,f4,f5,_⟩:=Vl hy;cases hp:(lN t (cV b r.2.2.1).2.2.2.1).2 with
  |false=>exact⟨λ_=>⟨.inl ⟨k,rfl⟩,rfl⟩,λe=>by cases e⟩
  |true=>
   obtain⟨p1,p2,p3,p4⟩:=Rr hp;rw[ai,zD];refine⟨λh=>absurd rfl h,λ_=>⟨λe=>by omega,λ_=>⟨rfl,rfl,?_⟩⟩⟩;have:=f5 y2;refine(Hs _ _ (by show(lN t (cV b r.2.2.1).2.2.2.1).1.size<=1099511627776;omega)).2 ⟨hy,?_,?_,?_,λe=>by omega⟩
   ·show _<=((lN t (cV b r.2.2.1).2.2.2.1).1.size:Int);omega
   ·show((lN t (cV b r.2.2.1).2.2.2.1).1.size:Int)<=_;omega
   ·rw[y1,zwy];exact p4
 ·rw[zF (by omega:¬r.1=1),zF (by omega:¬r.1=3),zF (by omega:¬r.1=4),zT k,zD,zD,zD,zC] at c4;rw[zF (by omega:¬r.1=1),zF (by omega:¬r.1=2),zF (by omega:¬r.1=3),zF (by omega:¬r.1=4),zT k,zD,zD,zD,zD,zC];unfold LP at c4;cases hp:(zr r.2.2.2.2.1 t).2 with
  |false=>exact⟨λ_=>⟨.inr ⟨k,rfl⟩,rfl⟩,λe=>by cases e⟩
  |true=>
   rw[ai,zD];refine⟨λh=>absurd rfl h,λ_=>⟨λe=>by omega,λ_=>⟨rfl,e4 (by omega),?_⟩⟩⟩;obtain⟨p,hm,_,hq⟩:=Vn hp;show eS _ (zr r.2.2.2.2.1 t).1=0;rw[hq];cases hz:(!decide ((zA r.2.2.2.2.1).1=0)||decide ((r.2.2.2.2.1.length:Int)=0)) with
   |true=>rw[hz] at c4;cases c4
   |false=>rw[hz,zD] at c4;exact(OW c4 p hm).2
end eD

set_option profiler true
set_option profiler.threshold 2000
namespace eD
open Go.IntKind renaming wrap->zW,i64->zI,u8->zU
open Go Go.Ref
def jz(style c:Int):Int:=if style=2/\c=1 then 1 else if style=1/\(c=5\/c=6) then 2 else 0
def qw(h:Int)(n:Nat):Nat:=if h=1 then(n+1)/2 else if h=2 then 2*n else n
def tL(h:Int)(t:af)(n:Int):Sum Int af:=if h=1 then(if(z21 t n).2.1=0 then .inr (z21 t n).1 else .inl (z21 t n).2.1) else if h=2 then(if(vz t).2.2=true then .inr (vz t).1 else .inl 3) else .inr t
def yK(s:Spec)(z:Int):Sum Int af->af×Int×Int
 | .inl e=>(bs [],0,e)
 | .inr t=>if eS s t=0 then(t,z,0) else(bs [],0,eS s t)
def AY(h:Int)(s:Spec)(b:af)(n a:Nat):af×Int×Int:=
 if b.size<a+qw h n then(bs [],0,2) else yK s ((a+qw h n:Nat):Int) (tL h (b.extract a (a+qw h n)) n)
def Z4(style:Int)(s:Spec)(b:af)(at_:Int):Sum Int (Nat×Nat):=
 if s.2.2.1=1 then .inr (s.2.2.2.1.toNat,at_.toNat) else if¬(tF style s.2.2.1 b at_).2.2=0 then .inl (tF style s.2.2.1 b at_).2.2 else
  if(tF style s.2.2.1 b at_).1<s.2.2.2.1\/s.2.2.2.2.1<(tF style s.2.2.1 b at_).1 then .inl 5 else .inr ((tF style s.2.2.1 b at_).1.toNat,(tF style s.2.2.1 b at_).2.1.toNat)
def BZ(h:Int)(s:Spec)(b:af):Sum Int (Nat×Nat)->af×Int×Int
 | .inl e=>(bs [],0,e)
 | .inr q=>AY h s b q.1 q.2
def wP(style:Int)(s:Spec)(b:af)(at_:Int):af×Int×Int:=
 if(style=1\/style=2)/\gj s=0/\0<=at_/\at_<=b.size then BZ (jz style s.2.1) s b (Z4 style s b at_) else(bs [],0,1)
theorem Z6(style c:Int):tW style c=some (jz style c):=by unfold tW YM jz;by_cases h1:style=1<;>by_cases h2:style=2<;>by_cases h3:c=1<;>by_cases h4:c=5<;>by_cases h5:c=6<;>(try(exfalso;omega))<;>simp [h1,h2,h3,h4,h5]
theorem Uj(style c:Int):jz style c=0\/jz style c=1\/jz style c=2:=by
 unfold jz;split
 ·exact .inr (.inl rfl)
 ·split
  ·exact .inr (.inr rfl)
  ·exact .inl rfl
theorem LC{s:Spec}(h:gj s=0):1<=s.2.1/\s.2.1<=6/\1<=s.2.2.1/\s.2.2.1<=3/\1<=s.2.2.2.1/\s.2.2.2.1<=s.2.2.2.2.1/\s.2.2.2.2.1<=999/\(s.2.2.1=2->s.2.2.2.2.1<=99)/\(s.2.2.1=1->s.2.2.2.1=s.2.2.2.2.1):=by
 unfold gj at h;split at h
 ·cases h
 split at h
 ·cases h
 split at h
 ·cases h
 split at h
 ·cases h
 refine⟨by omega,by omega,by omega,by omega,by omega,by omega,by omega,λe=>by omega,λe=>by omega⟩
theorem Pz:∀l:List Int,(om l).length<=l.length
 | []=>by simp [om]
 | [a]=>by simp [om]
 |a::b::r=>by rw[om,aB,aB,aB];have:=Pz r;omega
theorem acC(s:af):(vz s).1.size<=s.size:=by
 unfold vz;split
 ·exact bS _
 ·split
  ·exact bS _
  ·rw[wM,<-zg];exact Pz _
theorem agu{style form:Int}{b:af}{at_:Int}(h:(tF style form b at_).2.2=0):0<=(tF style form b at_).2.1/\(tF style form b at_).2.1<=b.size:=by
 unfold tF at h⊢;cases hk:(nM style form&&decide (0<=at_/\at_<=(b.size:Int))) with
 |false=>rw[hk] at h;cases h
 |true=>
  rw[hk] at h;simp only[zC] at h⊢;split
  ·exact⟨c9 _,Int.natCast_nonneg _⟩
  ·rename_i hs;split
   ·dsimp only;exact⟨by omega,by omega⟩
   ·exact⟨c9 _,Int.natCast_nonneg _⟩
def sU(sG:Int)(Au:Spec)(vk:af)(n a:Int):ae KI:=
 let K:af->Int->Int->ae KI:=λa0 a1 a2=>some (a0,a1,a2)
 ((tW sG Au.2.1).bind λr4=>(bif(decide (r4=(1:Int))) then((Q2 n).bind λr5=>(bif(decide ((zW zI (((vk).size:Int)-a))<r5)) then(K (bs []) (0:Int) (2:Int)) else(bif(decide ((0:Int)<=(zW zI (a+r5)))) then(bif(decide ((zW zI (a+r5))<=(((vk).size:Nat):Int))) then(bif(decide ((0:Int)<=a)) then(bif(decide (a<=((((zW zI (a+r5))).toNat:Nat):Int))) then((tW sG Au.2.1).bind λr6=>(bif(decide (r6=(1:Int))) then((Q0 ((vk).extract (a).toNat ((zW zI (a+r5))).toNat) n).bind λr7=>(bif(!(decide (r7.2.1=(0:Int)))) then(K (bs []) (0:Int) r7.2.1) else((gV Au r7.1).bind λr8=>(bif(!(decide (r8=(0:Int)))) then(K (bs []) (0:Int) r8) else(K r7.1 (zW zI (a+r5)) (0:Int)))))) else(bif(decide (r6=(2:Int))) then((qb ((vk).extract (a).toNat ((zW zI (a+r5))).toNat)).bind λr9=>(bif(!r9.2.2) then(K (bs []) (0:Int) (3:Int)) else((gV Au r9.1).bind λqZ=>(bif(!(decide (qZ=(0:Int)))) then(K (bs []) (0:Int) qZ) else(K r9.1 (zW zI (a+r5)) (0:Int)))))) else((gV Au ((vk).extract (a).toNat ((zW zI (a+r5))).toNat)).bind λtn=>(bif(!(decide (tn=(0:Int)))) then(K (bs []) (0:Int) tn) else(K ((vk).extract (a).toNat ((zW zI (a+r5))).toNat) (zW zI (a+r5)) (0:Int))))))) else none) else none) else none) else none))) else(bif(decide (r4=(2:Int))) then(bif(decide ((zW zI (((vk).size:Int)-a))<(zW zI ((2:Int)*n)))) then(K (bs []) (0:Int) (2:Int)) else(bif(decide ((0:Int)<=(zW zI (a+(zW zI ((2:Int)*n)))))) then(bif(decide ((zW zI (a+(zW zI ((2:Int)*n))))<=(((vk).size:Nat):Int))) then(bif(decide ((0:Int)<=a)) then(bif(decide (a<=((((zW zI (a+(zW zI ((2:Int)*n))))).toNat:Nat):Int))) then((tW sG Au.2.1).bind λuz=>(bif(decide (uz=(1:Int))) then((Q0 ((vk).extract (a).toNat ((zW zI (a+(zW zI ((2:Int)*n))))).toNat) n).bind λsF=>(bif(!(decide (sF.2.1=(0:Int)))) then(K (bs []) (0:Int) sF.2.1) else((gV Au sF.1).bind λvd=>(bif(!(decide (vd=(0:Int)))) then(K (bs []) (0:Int) vd) else(K sF.1 (zW zI (a+(zW zI ((2:Int)*n)))) (0:Int)))))) else(bif(decide (uz=(2:Int))) then((qb ((vk).extract (a).toNat ((zW zI (a+(zW zI ((2:Int)*n))))).toNat)).bind λve=>(bif(!ve.2.2) then(K (bs []) (0:Int) (3:Int)) else((gV Au ve.1).bind λAs=>(bif(!(decide (As=(0:Int)))) then(K (bs []) (0:Int) As) else(K ve.1 (zW zI (a+(zW zI ((2:Int)*n)))) (0:Int)))))) else((gV Au ((vk).extract (a).toNat ((zW zI (a+(zW zI ((2:Int)*n))))).toNat)).bind λAt=>(bif(!(decide (At=(0:Int)))) then(K (bs []) (0:Int) At) else(K ((vk).extract (a).toNat ((zW zI (a+(zW zI ((2:Int)*n))))).toNat) (zW zI (a+(zW zI ((2:Int)*n)))) (0:Int))))))) else none) else none) else none) else none)) else(bif(decide ((zW zI (((vk).size:Int)-a))<n)) then(K (bs []) (0:Int) (2:Int)) else(bif(decide ((0:Int)<=(zW zI (a+n)))) then(bif(decide ((zW zI (a+n))<=(((vk).size:Nat):Int))) then(bif(decide ((0:Int)<=a)) then(bif(decide (a<=((((zW zI (a+n))).toNat:Nat):Int))) then((tW sG Au.2.1).bind λCH=>(bif(decide (CH=(1:Int))) then((Q0 ((vk).extract (a).toNat ((zW zI (a+n))).toNat) n).bind λxQ=>(bif(!(decide (xQ.2.1=(0:Int)))) then(K (bs []) (0:Int) xQ.2.1) else((gV Au xQ.1).bind λE2=>(bif(!(decide (E2=(0:Int)))) then(K (bs []) (0:Int) E2) else(K xQ.1 (zW zI (a+n)) (0:Int)))))) else(bif(decide (CH=(2:Int))) then((qb ((vk).extract (a).toNat ((zW zI (a+n))).toNat)).bind λCI=>(bif(!CI.2.2) then(K (bs []) (0:Int) (3:Int)) else((gV Au CI.1).bind λIU=>(bif(!(decide (IU=(0:Int)))) then(K (bs []) (0:Int) IU) else(K CI.1 (zW zI (a+n)) (0:Int)))))) else((gV Au ((vk).extract (a).toNat ((zW zI (a+n))).toNat)).bind λOK=>(bif(!(decide (OK=(0:Int)))) then(K (bs []) (0:Int) OK) else(K ((vk).extract (a).toNat ((zW zI (a+n))).toNat) (zW zI (a+n)) (0:Int))))))) else none) else none) else none) else none)))))
theorem alw(style:Int)(s:Spec)(b:af)(n a:Nat)(hb:b.size<=1099511627776)(hn:n<=999)(ha:a<=b.size)(hh:jz style s.2.1=0):sU style s b n a=some (AY (jz style s.2.1) s b n a):=by
 unfold sU;simp only[Z6,zc];have w0:zW zI ((b.size:Int)-(a:Int))=(b.size:Int)-a:=zj (by omega) (by omega);have w1:∀z:Nat,z<=2000->zW zI ((a:Int)+(z:Int))=((a+z:Nat):Int):=λz hz=>by rw[zj (by omega) (by omega)];omega
 have hx:∀z:Nat,((a+z:Nat):Int).toNat=a+z:=λz=>ar _;have KM:∀z:Nat,(b.extract a (a+z)).size<=1099511627776:=λz=>by rw[b9];omega
 rw[hh];simp only[dG,decide_true,decide_false,zC,zD,w0,w1 n (by omega),hx,ar];unfold AY qw tL;simp only[show¬((0:Int)=1) from by decide,show¬((0:Int)=2) from by decide,if_false];split
 ·rename_i hc;rw[zT (by omega),zC]
 ·rename_i hc;rw[zF (by omega),zD,zT (by omega),zC,zT (by omega),zC,zT (by omega),zC,zT (by omega),zC,Fi _ _ (KM n),zc];unfold yK;by_cases hv:eS s (b.extract a (a+n))=0
  ·simp only[hv,decide_true,ai,zD,if_true]
  ·simp only[hv,decide_false,aY,zC,if_false]
theorem alx(style:Int)(s:Spec)(b:af)(n a:Nat)(hb:b.size<=1099511627776)(hn:n<=999)(ha:a<=b.size)(hh:jz style s.2.1=1):sU style s b n a=some (AY (jz style s.2.1) s b n a):=by
 unfold sU;simp only[Z6,zc];have w0:zW zI ((b.size:Int)-(a:Int))=(b.size:Int)-a:=zj (by omega) (by omega);have w1:∀z:Nat,z<=2000->zW zI ((a:Int)+(z:Int))=((a+z:Nat):Int):=λz hz=>by rw[zj (by omega) (by omega)];omega
 have hx:∀z:Nat,((a+z:Nat):Int).toNat=a+z:=λz=>ar _;have KM:∀z:Nat,(b.extract a (a+z)).size<=1099511627776:=λz=>by rw[b9];omega
 rw[hh];have ez:((n:Int)+1)/2=(((n+1)/2:Nat):Int):=by omega
 simp only[dG,decide_true,decide_false,zC,zD,SB (n:Int) (by omega) (by omega),zc,ez];simp only[w0,w1 ((n+1)/2) (by omega),hx,ar,dG,decide_true,decide_false,zC,zD];unfold AY qw tL;simp only[if_true];split
 ·rename_i hc;rw[zT (by omega),zC]
 ·rename_i hc;rw[zF (by omega),zD,zT (by omega),zC,zT (by omega),zC,zT (by omega),zC,zT (by omega),zC,zg8 _ _ (KM _),zc];generalize hg:z21 (b.extract a (a+(n+1)/2)) (n:Int)=g;obtain⟨t,e,i⟩:=g;have tD:=za9 hg;dsimp only;by_cases he:e=0
  ·rw[zT he,ai,zD,if_pos he,Fi _ _ (by omega),zc];unfold yK;by_cases hv:eS s t=0
   ·simp only[hv,decide_true,ai,zD,if_true]
   ·simp only[hv,decide_false,aY,zC,if_false]
  ·rw[zF he,aY,zC,if_neg he];rfl
theorem aly(style:Int)(s:Spec)(b:af)(n a:Nat)(hb:b.size<=1099511627776)(hn:n<=999)(ha:a<=b.size)(hh:jz style s.2.1=2):sU style s b n a=some (AY (jz style s.2.1) s b n a):=by
 unfold sU;simp only[Z6,zc];have w0:zW zI ((b.size:Int)-(a:Int))=(b.size:Int)-a:=zj (by omega) (by omega);have w1:∀z:Nat,z<=2000->zW zI ((a:Int)+(z:Int))=((a+z:Nat):Int):=λz hz=>by rw[zj (by omega) (by omega)];omega
 have hx:∀z:Nat,((a+z:Nat):Int).toNat=a+z:=λz=>ar _;have KM:∀z:Nat,(b.extract a (a+z)).size<=1099511627776:=λz=>by rw[b9];omega
 rw[hh];have ez:zW zI ((2:Int)*(n:Int))=((2*n:Nat):Int):=by rw[zj (by omega) (by omega)];omega
 simp only[dG,decide_true,decide_false,zD,zC];rw[ez];simp only[w0,w1 (2*n) (by omega),hx,ar,dG,decide_true,decide_false,zC,zD];unfold AY qw tL;simp only[show¬((2:Int)=1) from by decide,if_false,if_true];split
 ·rename_i hc;rw[zT (by omega),zC]
 ·rename_i hc;rw[zF (by omega),zD,zT (by omega),zC,zT (by omega),zC,zT (by omega),zC,zT (by omega),zC,zrv _ (KM _),zc];have tD:=acC (b.extract a (a+2*n));have h3:=KM (2*n);generalize vz (b.extract a (a+2*n))=g at tD;obtain⟨t,i,ok⟩:=g;dsimp only at tD⊢;cases ok with
  |true=>
   rw[ai,zD,if_pos rfl,Fi _ _ (by omega),zc];unfold yK;by_cases hv:eS s t=0
   ·simp only[hv,decide_true,ai,zD,if_true]
   ·simp only[hv,decide_false,aY,zC,if_false]
  |false=>rw[aY,zC,if_neg (by decide)];rfl
theorem Pk(style:Int)(s:Spec)(b:af)(n a:Nat)(hb:b.size<=1099511627776)(hn:n<=999)(ha:a<=b.size):sU style s b n a=some (AY (jz style s.2.1) s b n a):=by
 rcases Uj style s.2.1 with hh|hh|hh
 ·exact alw style s b n a hb hn ha hh
 ·exact alx style s b n a hb hn ha hh
 ·exact aly style s b n a hb hn ha hh
theorem ade(style:Int)(s:Spec)(b:af)(at_:Int)(hb:b.size<=1099511627776):LV style s b at_=some (wP style s b at_):=by
 have hk:HU style=some (decide (style=1\/style=2)):=by
  unfold HU TX;by_cases h1:style=1
  ·rw[zT (p:=style=1\/style=2) (.inl h1),zT h1];rfl
  ·rw[zF h1,zD];by_cases h2:style=2
   ·rw[zT (p:=style=1\/style=2) (.inr h2),zT h2]
   ·rw[zF (p:=style=1\/style=2) (λh=>h.elim h1 h2),zF h2]
 unfold LV YK wP;rw[hk,zc];by_cases h1:style=1\/style=2
 case neg=>rw[zF h1,if_neg (λh=>h1 h.1)];rfl
 rw[zT h1,ai,zD,Sv,zc];by_cases h2:gj s=0
 case neg=>rw[zF h2,if_neg (λh=>h2 h.2.1)];rfl
 rw[zT h2,ai,zD];by_cases h3:at_<0
 ·rw[zT h3,if_neg (λh=>by omega)];rfl
 rw[zF h3,zD];by_cases h4:(b.size:Int)<at_
 ·rw[zT h4,if_neg (λh=>by omega)];rfl
 rw[zF h4,zD,if_pos ⟨h1,h2,by omega,by omega⟩];obtain⟨k1,k2,k3,k4,k5,k6,k7,k8,k9⟩:=LC h2;obtain⟨m,rfl⟩:∃m:Nat,at_=m:=⟨at_.toNat,by omega⟩
 unfold Z4;by_cases h5:s.2.2.1=1
 ·rw[zT h5,ai,zD,if_pos h5];have:=Pk style s b s.2.2.2.1.toNat m hb (by omega) (by omega);rw[cD (by omega)] at this;exact this
 ·rw[zF h5,aY,zC,if_neg h5,agt _ _ _ _ hb,zc];by_cases h6:(tF style s.2.2.1 b m).2.2=0
  case neg=>rw[zF h6,if_pos h6];rfl
  rw[zT h6,ai,zD,if_neg (λh=>h h6)];have hp:=agu h6;by_cases h7:(tF style s.2.2.1 b m).1<s.2.2.2.1
  ·rw[zT h7,if_pos (.inl h7)];rfl
  rw[zF h7,zD];by_cases h8:s.2.2.2.2.1<(tF style s.2.2.1 b m).1
  ·rw[zT h8,if_pos (.inr h8)];rfl
  rw[zF h8,zD,if_neg (λh=>h.elim h7 h8)];have:=Pk style s b (tF style s.2.2.1 b m).1.toNat (tF style s.2.2.1 b m).2.1.toNat hb (by omega) (by omega);rw[cD (by omega),cD (by omega)] at this;exact this
theorem N3{style c:Int}(h:jz style c=1):style=2/\c=1:=by
 unfold jz at h;split at h
 ·assumption
 ·split at h<;>cases h
def qi(h:Int)(t:af):af:=if h=1 then(yY t).1 else if h=2 then AK t else t
def pR(style form:Int)(n:Nat):af:=if form=1 then bs [] else(vA style form n).1
def yW(style:Int)(s:Spec)(t:af):af×Int:=
 if¬(style=1\/style=2) then(bs [],1) else if¬eS s t=0 then(bs [],eS s t) else(pR style s.2.2.1 t.size++qi (jz style s.2.1) t,0)
theorem zga(t:af):(yY t).1.size<=500:=by
 by_cases h:t.size<=999/\eJ (bl t)=true
 ·rw[Sw h.1 h.2];omega
 ·unfold yY;rw[zF h];exact bS _
theorem zzk(style form:Int)(n:Nat):(pR style form n).size<=500:=by
 unfold pR vA;split
 ·exact bS _
 ·cases nM style form with
  |false=>exact bS _
  |true=>
   cases(pC (n:Int) form).2 with
   |false=>exact bS _
   |true=>
    show(if style=2 then _ else _:af).size<=500;split
    ·exact zga _
    ·have:=zzm (n:Int) form;omega
theorem zy4(h:Int)(t:af):(qi h t).size<=2*t.size+500:=by
 unfold qi;split
 ·have:=zga t;omega
 ·split
  ·rw[Sx];omega
  ·omega
theorem Z3(x:af):bs []++x=x:=by apply j5;simp [fM,bs]
theorem adf(style:Int)(s:Spec)(t:af)(ht:t.size<=1099511627776):HP style s t=some (yW style s t):=by
 unfold HP YL HU TX yW;have nB:=zy4 (jz style s.2.1) t;have ri:=zzk style s.2.2.1 t.size;have main:style=1\/style=2->(gV s t).bind (λr2=>(bif(!(decide (r2=(0:Int)))) then some (bs [],r2) else(bif(!(decide (s.2.2.1=(1:Int)))) then((zH style s.2.2.1 ((t).size:Int)).bind λr3=>((tW style s.2.1).bind λr4=>(bif(decide (r4=(1:Int))) then((Q1 t).bind λr5=>(bif decide ((r3.1).size+(r5.1).size<=9223372036854775807) then some (r3.1++r5.1,(0:Int)) else none)) else(bif(decide (r4=(2:Int))) then((sM t).bind λr6=>(bif decide ((r3.1).size+(r6).size<=9223372036854775807) then some (r3.1++r6,(0:Int)) else none)) else(bif decide ((r3.1).size+(t).size<=9223372036854775807) then some (r3.1++t,(0:Int)) else none))))) else((tW style s.2.1).bind λr7=>(bif(decide (r7=(1:Int))) then((Q1 t).bind λr8=>(bif decide (((bs [])).size+(r8.1).size<=9223372036854775807) then some ((bs [])++r8.1,(0:Int)) else none)) else(bif(decide (r7=(2:Int))) then((sM t).bind λr9=>(bif decide (((bs [])).size+(r9).size<=9223372036854775807) then some ((bs [])++r9,(0:Int)) else none)) else(bif decide (((bs [])).size+(t).size<=9223372036854775807) then some ((bs [])++t,(0:Int)) else none)))))))=some (if¬eS s t=0 then(bs [],eS s t) else(pR style s.2.2.1 t.size++qi (jz style s.2.1) t,0)):=λhs=>by
  rw[Fi s t ht,zc];by_cases hv:eS s t=0
  case neg=>rw[zF hv,if_pos hv];rfl
  rw[zT hv,ai,zD,if_neg (λh=>h hv)];simp only[Z6,zc,agv _ _ _ (show(t.size:Int)<=9223372036854775807 by omega),zg9 t (by simp only[maxLen];omega),zrw t ht];have hz:(bs []).size=0:=rfl;by_cases h1:s.2.2.1=1
  ·rw[zT h1,ai,zD];unfold pR;rw[if_pos h1];unfold qi at nB⊢;rcases Uj style s.2.1 with hh|hh|hh<;>rw[hh] at nB⊢ <;>simp only[dG,decide_true,decide_false,zC,zD,if_true,if_false] at nB⊢
   all_goals rw[zT (by omega),zC]
  ·rw[zF h1,aY,zC];unfold pR at ri⊢;rw[if_neg h1] at ri⊢;unfold qi at nB⊢;rcases Uj style s.2.1 with hh|hh|hh<;>rw[hh] at nB⊢ <;>simp only[dG,decide_true,decide_false,zC,zD,if_true,if_false] at nB⊢
   all_goals rw[zT (by omega),zC]
 by_cases h1:style=1
 ·rw[zT h1,zC,zc,ai,zD,if_neg (λh=>h (.inl h1))];exact main (.inl h1)
 ·rw[zF h1,zD,zc];by_cases h2:style=2
  ·rw[zT h2,ai,zD,if_neg (λh=>h (.inr h2))];exact main (.inr h2)
  ·rw[zF h2,if_pos (λh=>h.elim h1 h2)];rfl
theorem Yu(x p y:af):(x++p++y).extract x.size (x.size+p.size)=p:=by apply A7;rw[xU,tR,tR,aQ,<-zg,<-zg,List.take_append,List.drop_append_of_le_length (by simp),];simp
theorem ss(x y:af):(x++y).size=x.size+y.size:=cq ..
theorem TM(b:af){i j k:Nat}(h:i<=j)(h2:j<=k):b.extract i j++b.extract j k=b.extract i k:=by
 apply A7;rw[tR,xU,xU,xU];generalize bl b=l;have e1:l.take j=(l.take k).take j:=by rw[List.take_take];congr 1;omega
 rw[e1];generalize l.take k=q;rw[<-List.take_append_drop (j-i) (q.drop i),List.drop_take,dL,show i+(j-i)=j by omega]
theorem ajC{n w:Int}(h:0<=n/\1<=w/\w<=18/\n.toNat/10^w.toNat=0):mD (bl (pC n w).1)=(n,true)/\(pC n w).1.size=w.toNat/\eJ (bl (pC n w).1)=true/\(pC n w).2=true:=by rw[zsg h];dsimp only;have hb:bl (strOf (wR w.toNat n.toNat))=wR w.toNat n.toNat:=wO (SU (Ys _ _));refine⟨?_,by rw[wM,SC],by rw[hb];exact Ys _ _,rfl⟩;rw[hb];unfold mD;rw[SC,Ys,if_pos ⟨by omega,by omega,rfl⟩,Qa _ _ h.2.2.2,cD h.1]
theorem zyt{s:af}{n:Int}(h:mD (bl s)=(n,true)):pC n s.size=(s,true)/\0<=n:=by
 unfold mD at h;split at h
 ·rename_i hc;obtain⟨h1,h2,h3⟩:=hc;have hv:nV (bl s) 0=n:=congrArg Prod.fst h;have hn:=(zss (bl s) 0 0 h3 (c9 _) (by simp) (by omega)).1;rw[hv] at hn;obtain⟨e1,e2⟩:=Po (bl s).length n.toNat (bl s) h3 rfl (by rw[hv,cD hn]);rw[zg] at e1 e2 h1 h2;refine⟨?_,hn⟩;rw[zsg ⟨hn,by omega,by omega,by rw[ar];exact e2⟩,ar,e1,CU]
 ·cases h
theorem zhb{style form:Int}:nM style form=true↔(style=1\/style=2)/\(form=2\/form=3):=by unfold nM;rw[decide_eq_true_eq]
theorem agw{style form:Int}{n:Nat}(hk:nM style form=true)(hn:n/10^form.toNat=0):xO style form (vA style form n).1=some (n:Int)/\(vA style form n).1.size=sj style form/\(vA style form n).2=0:=by
 have GI:=zhb.1 hk;obtain⟨p1,p2,p3,p4⟩:=ajC (n:=(n:Int)) (w:=form) ⟨by omega,by omega,by omega,by rw[ar];exact hn⟩;unfold xO sj vA;rw[hk,zC,p4,zC];dsimp only;by_cases hs:style=2
 ·rw[if_pos hs,if_pos hs,if_pos hs];have hb:=znu (s:=(pC n form).1) (by omega) p3;rw[p2,cD (by omega)] at hb;rw[hb];dsimp only;rw[if_pos rfl,p1];refine⟨rfl,?_,rfl⟩;rw[Sw (by omega) p3,p2]
 ·rw[if_neg hs,if_neg hs,if_neg hs,p1];exact⟨rfl,p2,rfl⟩
theorem adE{style form n:Int}{s:af}(hk:nM style form=true)(h:xO style form s=some n)(hs:s.size=sj style form):vA style form n=(s,0)/\0<=n:=by
 have GI:=zhb.1 hk;unfold xO at h;unfold sj at hs;unfold vA;rw[hk,zC];by_cases h2:style=2
 ·rw[if_pos h2] at h hs⊢;generalize hg:z21 s form=g at h;obtain⟨t,e,i⟩:=g;dsimp only at h;split at h
  case isFalse=>cases h
  rename_i he;subst he;obtain⟨a1,a2,a3⟩:=zgc hg (by omega);split at h
  case isFalse=>cases h
  rename_i ho;have hn:(mD (bl t)).1=n:=by simpa using h
  obtain⟨c1,c2⟩:=zyt (s:=t) (n:=n) (by rw[<-hn,<-ho]);rw[a2] at c1;rw[c1,zC];dsimp only;rw[a1];exact⟨rfl,c2⟩
 ·rw[if_neg h2] at h hs⊢;split at h
  case isFalse=>cases h
  rename_i ho;have hn:(mD (bl s)).1=n:=by simpa using h
  obtain⟨c1,c2⟩:=zyt (s:=s) (n:=n) (by rw[<-hn,<-ho]);rw[hs,cD (by omega)] at c1;rw[c1];exact⟨rfl,c2⟩
theorem ajA{style form:Int}{n:Nat}(hk:nM style form=true)(hn:n/10^form.toNat=0)(x y:af):tF style form (x++(vA style form n).1++y) x.size=((n:Int),((x.size+(vA style form n).1.size:Nat):Int),0):=by obtain⟨h1,h2,h3⟩:=agw hk hn;unfold tF;rw[hk,zT ⟨by omega,by rw[ss,ss];omega⟩,eU,zC,ar,if_neg (by rw[ss,ss];omega),<-h2,Yu,h1]
theorem agx{style form n z:Int}{b:af}{a:Nat}(h:tF style form b a=(n,z,0)):nM style form=true/\0<=n/\a<=b.size/\z=((a+sj style form:Nat):Int)/\a+sj style form<=b.size/\vA style form n=(b.extract a (a+sj style form),0):=by
 unfold tF at h;cases hk:(nM style form&&decide (0<=(a:Int)/\(a:Int)<=(b.size:Int))) with
 |false=>rw[hk] at h;cases h
 |true=>
  rw[hk,zC,ar] at h;rw[ap,decide_eq_true_eq] at hk;split at h
  ·cases h
  ·rename_i hs;split at h
   ·rename_i m hm;cases h;obtain⟨c1,c2⟩:=adE hk.1 hm (J0 (by omega));exact⟨hk.1,c2,by omega,rfl,by omega,c1⟩
   ·cases h
theorem aiD{style:Int}{s:Spec}{t:af}(ht:t.size<=1099511627776)(hv:eS s t=0):tL (jz style s.2.1) (qi (jz style s.2.1) t) t.size= .inr t/\(qi (jz style s.2.1) t).size=qw (jz style s.2.1) t.size:=by
 obtain⟨v1,v2,v3,v4,v5⟩:=(Hs s t ht).1 hv;have hk:=LC v1;unfold tL qi qw;rcases Uj style s.2.1 with hh|hh|hh<;>rw[hh]<;>simp only[dG,if_true,if_false]
 ·exact⟨trivial,trivial⟩
 ·have hc:=N3 hh;rw[hc.2,zwy] at v4;rw[znu (by omega) v4];exact⟨rfl,Sw (by omega) v4⟩
 ·rw[z138];exact⟨rfl,Sx t⟩
theorem afC{style:Int}{s:Spec}{c t:af}{n:Nat}(hc:c.size=qw (jz style s.2.1) n)(hn:n<=999)(h:tL (jz style s.2.1) c n= .inr t):qi (jz style s.2.1) t=c/\t.size=n:=by
 unfold tL at h;unfold qw at hc;unfold qi;rcases Uj style s.2.1 with hh|hh|hh<;>rw[hh] at h hc⊢ <;>simp only[dG,if_true,if_false] at h hc⊢
 ·injection h with h
  exact⟨h.symm,by rw[<-h];exact hc⟩
 ·split at h
  case isFalse=>cases h
  rename_i he;generalize hg:z21 c (n:Int)=g at h he;obtain⟨t',e,i⟩:=g;dsimp only at h he;subst he;injection h with h
  subst h;obtain⟨a1,a2,a3⟩:=zgc hg (by omega);exact⟨by rw[a1],by omega⟩
 ·split at h
  case isFalse=>cases h
  rename_i he;generalize hg:vz c=g at h he;obtain⟨t',i,ok⟩:=g;dsimp only at h he;subst he;injection h with h
  subst h;obtain⟨a1,a2⟩:=zh0 hg;exact⟨a1,by omega⟩
theorem ajz{n:Nat}{form:Int}(hf:form=2\/form=3)(h2:form=2->n<=99)(h3:n<=999):n/10^form.toNat=0:=by
 rcases hf with rfl|rfl
 ·show n/100=0;have:=h2 rfl;omega
 ·show n/1000=0;omega
theorem afy{style:Int}{s:Spec}{t:af}(hs:style=1\/style=2)(ht:t.size<=1099511627776)(hv:eS s t=0)(x y:af):wP style s (x++(yW style s t).1++y) x.size=(t,((x.size+(yW style s t).1.size:Nat):Int),0):=by
 obtain⟨v1,v2,v3,v4,v5⟩:=(Hs s t ht).1 hv;obtain⟨k1,k2,k3,k4,k5,k6,k7,k8,k9⟩:=LC v1;obtain⟨c1,c2⟩:=aiD (style:=style) ht hv;have hP:(yW style s t).1=pR style s.2.2.1 t.size++qi (jz style s.2.1) t:=by unfold yW;rw[if_neg (λh=>h hs),if_neg (λh=>h hv)]
 rw[hP];generalize hC:qi (jz style s.2.1) t=C at c1 c2;have body:∀(p:af),AY (jz style s.2.1) s (p++C++y) t.size p.size=(t,((p.size+C.size:Nat):Int),0):=λp=>by unfold AY;rw[<-c2,if_neg (by rw[ss,ss];omega),Yu,c1];show(if eS s t=0 then _ else _)=_;rw[if_pos hv]
 unfold wP;rw[if_pos ⟨hs,v1,by omega,by simp only[ss];omega⟩];unfold Z4;by_cases hf:s.2.2.1=1
 ·have hp:pR style s.2.2.1 t.size=bs []:=by unfold pR;rw[if_pos hf]
  rw[if_pos hf,hp,Z3];have hn:s.2.2.2.1.toNat=t.size:=by have:=k9 hf;omega
  rw[hn,ar];exact body x
 ·rw[if_neg hf];have hp:pR style s.2.2.1 t.size=(vA style s.2.2.1 t.size).1:=by unfold pR;rw[if_neg hf]
  have pk:nM style s.2.2.1=true:=zhb.2 ⟨hs,by omega⟩;have hb:=ajA pk (n:=t.size) (ajz (by omega) (λe=>by have:=k8 e;omega) (by omega)) x (C++y);have Ib:x++(pR style s.2.2.1 t.size++C)++y=x++(vA style s.2.2.1 t.size).1++(C++y):=by rw[hp];simp [df]
  have Es:x++(vA style s.2.2.1 t.size).1++(C++y)=(x++(vA style s.2.2.1 t.size).1)++C++y:=by simp [df]
  rw[Ib,hb];dsimp only;rw[if_neg (λh=>h rfl),if_neg (by omega)];unfold BZ;dsimp only;rw[ar,ar,Es];have:=body (x++(vA style s.2.2.1 t.size).1);rw[ss] at this;rw[this,hp,ss,Nat.add_assoc]
theorem zcy{style z:Int}{s:Spec}{b t:af}{a:Nat}(hb:b.size<=1099511627776)(h:wP style s b a=(t,z,0)):(style=1\/style=2)/\eS s t=0/\(a:Int)<=z/\z<=b.size/\t.size<=999/\(yW style s t).1=b.extract a z.toNat:=by
 unfold wP at h;split at h
 case isFalse=>cases h
 rename_i hc;obtain⟨hs,v1,ha0,ha1⟩:=hc;obtain⟨k1,k2,k3,k4,k5,k6,k7,k8,k9⟩:=LC v1;have body:∀(n p:Nat),n<=999->AY (jz style s.2.1) s b n p=(t,z,0)->eS s t=0/\z=((p+qw (jz style s.2.1) n:Nat):Int)/\p+qw (jz style s.2.1) n<=b.size/\t.size=n/\qi (jz style s.2.1) t=b.extract p (p+qw (jz style s.2.1) n):=by
  intro n p hn h;unfold AY at h;split at h
  ·cases h
  ·rename_i bR;cases hg:tL (jz style s.2.1) (b.extract p (p+qw (jz style s.2.1) n)) (n:Int) with
   |inl e=>
    rw[hg] at h;replace h:(bs [],(0:Int),e)=(t,z,0):=h;injection h with _ h
    injection h with _ h
    exfalso;subst h;unfold tL at hg;split at hg
    ·split at hg
     ·cases hg
     ·rename_i fS;injection hg with hg
      exact fS hg
    ·split at hg
     ·split at hg<;>cases hg
     ·cases hg
   |inr t'=>
    rw[hg] at h;replace h:(if eS s t'=0 then(t',((p+qw (jz style s.2.1) n:Nat):Int),(0:Int)) else(bs [],0,eS s t'))=(t,z,0):=h;split at h
    ·rename_i hv;cases h;obtain⟨c1,c2⟩:=afC (J0 (by omega)) hn hg;exact⟨hv,rfl,by omega,c2,c1⟩
    ·rename_i hv;injection h with _ h
     injection h with _ h
     exact absurd h hv
 have fin:eS s t=0->(yW style s t).1=pR style s.2.2.1 t.size++qi (jz style s.2.1) t:=λhv=>by unfold yW;rw[if_neg (λh=>h hs),if_neg (λh=>h hv)]
 unfold Z4 at h;by_cases hf:s.2.2.1=1
 ·rw[if_pos hf] at h;obtain⟨b1,b2,b3,b4,b5⟩:=body _ _ (by omega) h;rw[ar] at b2 b3 b5;refine⟨hs,b1,by omega,by omega,by omega,?_⟩;rw[fin b1,b5,b2,ar];unfold pR;rw[if_pos hf,Z3]
 ·rw[if_neg hf] at h;split at h
  ·rename_i he;unfold BZ at h;injection h with _ h
   injection h with _ h
   exact absurd h he
  ·rename_i he;split at h
   ·cases h
   ·rename_i hr;generalize hg:tF style s.2.2.1 b (a:Int)=g at h he hr;obtain⟨n,z',e⟩:=g;dsimp only at h he hr;have he:e=0:=by
     by_cases e0:e=0
     ·exact e0
     ·exact absurd e0 he
    subst he;obtain⟨q1,q2,q3,q4,q5,q6⟩:=agx hg;obtain⟨b1,b2,b3,b4,b5⟩:=body _ _ (by omega) h;dsimp only at b2 b3 b5;subst q4;rw[ar] at b2 b3 b5;refine⟨hs,b1,by omega,by omega,by omega,?_⟩;rw[fin b1,b5,b2,ar];have hpc:pR style s.2.2.1 t.size=b.extract a (a+sj style s.2.2.1):=by unfold pR;rw[if_neg hf,b4,cD q2,q6]
    rw[hpc,TM _ (by omega) (by omega)]
def xR(n:Nat)(l:List Int):Nat:=l.foldl (λn c=>n*256+c.toNat) n
def tw(l:List Int):Nat:=xR 0 l
def uf(x:Nat):List Int:=[((x/72057594037927936 % 256:Nat):Int),((x/281474976710656 % 256:Nat):Int),((x/1099511627776 % 256:Nat):Int),((x/4294967296 % 256:Nat):Int),((x/16777216 % 256:Nat):Int),((x/65536 % 256:Nat):Int),((x/256 % 256:Nat):Int),((x % 256:Nat):Int)]
theorem TL{x:Nat}(h:x<18446744073709551616):tw (uf x)=x:=by simp only[tw,xR,uf,List.foldl,ar];omega
theorem eight{l:List Int}(h:l.length=8):∃a b c d e f g i,l=[a,b,c,d,e,f,g,i]:=by
 match l,h with
 | [a,b,c,d,e,f,g,i],_=>exact⟨a,b,c,d,e,f,g,i,rfl⟩
def Uf:Nat->Nat->List Int
 |0,_=>[]
 |m+1,x=>Uf m (x/256)++ [((x % 256:Nat):Int)]
theorem agX(l:List Int)(n:Nat)(c:Int):xR n (l++ [c])=xR n l*256+c.toNat:=by unfold xR;rw[dM];rfl
theorem zrb:∀(m:Nat) (l:List Int),l.length=m->(∀y∈l,zl y)->Uf m (tw l)=l/\tw l<256^m
 |0,l,h,_=>by have:=List.length_eq_zero_iff.1 h;subst this;exact⟨rfl,by decide⟩
 |m+1,l,h,hb=>by
  obtain⟨q,c,rfl⟩:∃q c,l=q++ [c]:=by
   rcases List.eq_nil_or_concat l with e|⟨q,c,e⟩
   ·rw[e] at h;cases h
   ·exact⟨q,c,by rw[e,List.concat_eq_append]⟩
  obtain⟨i1,i2⟩:=zrb m q (by rw[aF,cr] at h;omega) λy hy=>hb y (List.mem_append_left _ hy);have hc:=hb c (List.mem_append_right _ (by simp));unfold zl at hc;unfold tw at i1 i2⊢;rw[agX];generalize xR 0 q=v at i1 i2;refine⟨?_,by rw[ju];omega⟩;rw[Uf,show(v*256+c.toNat)/256=v by omega,i1,show(v*256+c.toNat)% 256=c.toNat by omega,cD hc.1]
theorem Nl(x:Nat):uf x=Uf 8 x:=by simp only[Uf,uf,kz,bD,List.cons_append]
theorem TU{l:List Int}(h:l.length=8)(hb:∀y∈l,zl y):uf (tw l)=l/\tw l<18446744073709551616:=by obtain⟨h1,h2⟩:=zrb 8 l h hb;rw[Nl];exact⟨h1,by rw[show(256:Nat)^8=18446744073709551616 from by decide] at h2;exact h2⟩
theorem zo3(x:Nat):∀y∈uf x,zl y:=by intro y hy;unfold uf at hy;simp only[aD,List.not_mem_nil,or_false] at hy;unfold zl;omega
theorem QW(x:Nat):(uf x).length=8:=rfl
theorem VS{x:Nat}(hx:x<18446744073709551616):uf x=[0,0,0,0,0,0,0,0]↔x=0:=by
 constructor
 ·intro h;have:=TL hx;rw[h] at this;rw[<-this];rfl
 ·rintro rfl;rfl
theorem anu(n:Nat):zW zU (n:Int)=((n % 256:Nat):Int):=by simp [kF,jC,gY]
theorem Hi(k x:Nat)(j:Nat)(hj:j<8)(p q:List Int):qE (k+1) (x:Int) (j:Int) p q=qE k (x:Int) ((j+1:Nat):Int) p (q.set j ((x/2^(8*(7-j))% 256:Nat):Int)):=by
 have e1:zW zI ((7:Int)-(j:Int))=((7-j:Nat):Int):=by rw[zj (by omega) (by omega)];omega
 have e2:zW zI ((8:Int)*((7-j:Nat):Int))=((8*(7-j):Nat):Int):=by rw[zj (by omega) (by omega)];omega
 conv=>lhs;unfold qE vK
 rw[zT (by omega),zC,e1,e2,zF (by omega),zD,zi hj,SW x _ (by omega),anu,zu (by omega),ar]
theorem afu(k x:Nat)(p q:List Int):qE (k+1) (x:Int) ((8:Nat):Int) p q=some (p,q):=by unfold qE vK;rw[zF (by omega)];rfl
theorem zo4(x:Nat):Q8 (x:Int)=some (uf x):=by
 obtain⟨k,hk⟩:∃k,bG=k+9:=⟨bG-9,by rw[zv]⟩
 unfold Q8 yr;dsimp only;rw[hk,show(0:Int)=((0:Nat):Int) from rfl,Hi _ x 0 (by decide),Hi _ x 1 (by decide),Hi _ x 2 (by decide),Hi _ x 3 (by decide),Hi _ x 4 (by decide),Hi _ x 5 (by decide),Hi _ x 6 (by decide),Hi _ x 7 (by decide),afu,zc];unfold yt uf;simp
theorem anl{n c:Nat}(hc:c<256):n*256|||c=n*256+c:=by have:=jf (i:=8) (b:=c) hc n;rw[show(2:Nat)^8=256 from rfl,Nat.mul_comm 256 n] at this;exact this.symm
theorem zxz(l:List Int)(hl:l.length=8)(hb:∀y∈l,zl y):∀(m j k n:Nat),j+m=8->m<k->n<256^j->sQ k (n:Int) l (j:Int)=some ((xR n (l.drop j):Nat):Int)
 |m,j,0,n,_,hk,_=>by omega
 |0,j,k+1,n,hj,hk,_=>by unfold sQ vJ;rw[zF (by omega),zD,aK (by omega)];rfl
 |m+1,j,k+1,n,hj,hk,hn=>by
  have bR:j<l.length:=by omega
  have hc:=hb _ (b6 bR);unfold zl at hc;have hg:l.getD j 0=l[j]:=by rw[al,av bR];rfl
  have hp:(256:Nat)^j<=256^7:=cS (by decide) (by omega);have hp7:(256:Nat)^7=72057594037927936:=by decide
  obtain⟨c,Gt⟩:∃c:Nat,l[j]=(c:Int):=⟨l[j].toNat,by omega⟩
  unfold sQ vJ;rw[zT (by omega),zC,zi (by omega),ar,hg,Gt,zu (by omega)];have e1:IntKind.u64.wrap ((n:Int)*2^min ((8:Int)).toNat 64)=((n*256:Nat):Int):=by
   have:((n:Int)*2^min ((8:Int)).toNat 64)=((n*256:Nat):Int):=by rw[show min ((8:Int)).toNat 64=8 from rfl,show(2:Int)^8=256 from by decide];omega
   rw[this];exact LD (by omega)
  rw[e1,LD (by omega),EZ (by omega) (by omega),anl (by omega)];dsimp only;have NZ:n*256+c<256^(j+1):=by rw[ju];omega
  rw[zxz l hl hb m (j+1) k _ (by omega) (by omega) NZ,aO bR,Gt];rfl
theorem QU(l:List Int)(hl:l.length=8)(hb:∀y∈l,zl y):Q7 l=some ((tw l:Nat):Int):=by unfold Q7 yp;have:=zxz l hl hb 8 0 bG 0 (by omega) (by rw[zv];omega) (by decide);rw[show((0:Nat):Int)=0 from rfl,aN] at this;dsimp only;rw[this];rfl
def qy(style:Int):Nat:=if style=1 then 16 else 8
def vl(style:Int)(b:af)(a:Nat):Sum Int Nat:=
 if b.size<a+qy style then .inl 2 else if style=1 then(if(vz (b.extract a (a+qy style))).2.2=true then .inr (tw (bl (vz (b.extract a (a+qy style))).1)) else .inl 3) else .inr (tw (bl (b.extract a (a+qy style))))
def CK(a:Nat)(style:Int):Sum Int Nat->List Int×Int×Int
 | .inl e=>(aw 8 0,0,e)
 | .inr x=>(uf x,((a+qy style:Nat):Int),0)
theorem Gl{t:af}(h:t.size=8):gX (aw 8 (0:Int)) (aJ 8 (z31 t)) 0=uf (tw (bl t)):=by
 have hl:(bl t).length=8:=by rw[zg];exact h
 rw[(TU hl λy hy=>su hy).1];have l8:z31 t=bl t:=rfl;rw[l8];obtain⟨a,b,c,d,e,f,g,i,hq⟩:=eight hl;rw[hq];rfl
theorem Cb{s t:af}{i:Int}(h:vz s=(t,i,true))(hs:s.size=16):t.size=8:=by have:=(zh0 h).2;omega
theorem Ry(style:Int)(b:af)(a:Nat)(hb:b.size<=1099511627776)(ha:a<=b.size)(hs:style=1\/style=2):Kw style b a=some (CK a style (vl style b a)):=by
 have w0:zW zI ((b.size:Int)-(a:Int))=(b.size:Int)-a:=zj (by omega) (by omega);have w8:zW zI ((a:Int)+8)=((a+8:Nat):Int):=by rw[zj (by omega) (by omega)];omega
 have w16:zW zI ((a:Int)+16)=((a+16:Nat):Int):=by rw[zj (by omega) (by omega)];omega
 have wm:zW zI ((8:Int)*2)=16:=by decide
 unfold Kw YI vl qy;rcases hs with rfl|rfl
 ·simp only[dG,decide_true,zC,wm,w0,w16,if_true,ar];split
  ·rename_i hc;rw[zT (by omega)];rfl
  ·rename_i hc;rw[zF (by omega),zD,zT (by omega),zC,zT (by omega),zC,zT (by omega),zC,zT (by omega),zC,zrv _ (by rw[b9];omega),zc];generalize hg:vz (b.extract a (a+16))=g;obtain⟨t,i,ok⟩:=g;cases ok with
   |false=>rfl
   |true=>have ht:=Cb hg (J0 (by omega));dsimp only;rw[ai,zD,if_pos rfl,Gl ht];rfl
 ·simp only[dG,decide_false,zD,w0,w8,if_false,ar];split
  ·rename_i hc;rw[zT (by omega)];rfl
  ·rename_i hc;rw[zF (by omega),zD,zT (by omega),zC,zT (by omega),zC,zT (by omega),zC,zT (by omega),zC,Gl (J0 (by omega))];rfl
theorem JC{style:Int}{b:af}{a x:Nat}(hs:style=1\/style=2)(h:vl style b a= .inr x):x<18446744073709551616/\a+qy style<=b.size:=by
 unfold vl qy at h;unfold qy;rcases hs with rfl|rfl
 ·simp only[if_true] at h⊢;split at h
  ·cases h
  ·split at h
   case isFalse=>cases h
   rename_i hc ho;injection h with h
   generalize hg:vz (b.extract a (a+16))=g at h ho;obtain⟨t,i,ok⟩:=g;dsimp only at h ho;subst ho;have ht:=Cb hg (J0 (by omega));rw[<-h];exact⟨(TU (by rw[zg];exact ht) λy hy=>su hy).2,by omega⟩
 ·simp only[dG,if_false] at h⊢;split at h
  ·cases h
  ·injection h with h
   rw[<-h];exact⟨(TU (by rw[zg];exact J0 (by omega)) λy hy=>su hy).2,by omega⟩
def UB(e:Int):Nat×Nat×Int×Int:=(0,0,0,e)
def jo(style:Int)(b:af)(at_:Int):Nat×Nat×Int×Int:=
 if(style=1\/style=2)/\0<=at_/\at_<=b.size then
  match vl style b at_.toNat with
  | .inl e=>UB e
  | .inr x=>if x<9223372036854775808 then(x,0,((at_.toNat+qy style:Nat):Int),0) else
    match vl style b (at_.toNat+qy style) with
    | .inl e=>UB e
    | .inr y=>if y=0 then UB 8 else(x-9223372036854775808,y,((at_.toNat+qy style+qy style:Nat):Int),0)
 else UB 1
def bmR(r:Nat×Nat×Int×Int):Di×Int×Int:=(((r.1:Int),(r.2.1:Int),()),r.2.2.1,r.2.2.2)
theorem al2{x:Nat}(hx:x<18446744073709551616):decide (dv .and .u64 (x:Int) (9223372036854775808:Int)=0)=decide (x<9223372036854775808):=by
 rw[show(9223372036854775808:Int)=((9223372036854775808:Nat):Int) from rfl,vP hx (by decide)];apply decide_eq_decide.2;have h:=z91 x 63;rw[show(2:Nat)^63=9223372036854775808 from by decide] at h;constructor
 ·intro e;have e:x&&&9223372036854775808=0:=by omega
  have:=h.1 e;rcases eB x 9223372036854775808 with h1|h1
  ·exact h1
  ·have h2:x.testBit 63=true:=by rw[eR];exact zT (by omega)
   rw[h2] at this;cases this
 ·intro e;have:x.testBit 63=false:=dx (by rw[show(2:Nat)^63=9223372036854775808 from by decide];exact e);have:=h.2 this;omega
theorem al3{x:Nat}(hx:x<18446744073709551616)(h:¬x<9223372036854775808):dv .andNot .u64 (x:Int) (9223372036854775808:Int)=((x-9223372036854775808:Nat):Int):=by
 rw[show(9223372036854775808:Int)=((9223372036854775808:Nat):Int) from rfl,aio hx (by decide)];have:x&&&(18446744073709551615-9223372036854775808)=x-9223372036854775808:=by have:=ij x 63;rw[show(2:Nat)^63-1=18446744073709551615-9223372036854775808 from by decide,show(2:Nat)^63=9223372036854775808 from by decide] at this;omega
 rw[this]
theorem aiv(style:Int)(b:af)(at_:Int)(hb:b.size<=1099511627776):Q5 style b at_=some (bmR (jo style b at_)):=by
 have hk:Q9 style=some (decide (style=1\/style=2)):=by
  unfold Q9 vL;by_cases h1:style=1
  ·rw[zT (p:=style=1\/style=2) (.inl h1),zT h1];rfl
  ·rw[zF h1,zD];by_cases h2:style=2
   ·rw[zT (p:=style=1\/style=2) (.inr h2),zT h2]
   ·rw[zF (p:=style=1\/style=2) (λh=>h.elim h1 h2),zF h2]
 unfold Q5 yl jo;rw[hk,zc];by_cases h1:style=1\/style=2
 case neg=>rw[zF h1,if_neg (λh=>h1 h.1)];rfl
 rw[zT h1,ai,zD];by_cases h3:at_<0
 ·rw[zT h3,if_neg (λh=>by omega)];rfl
 rw[zF h3,zD];by_cases h4:(b.size:Int)<at_
 ·rw[zT h4,if_neg (λh=>by omega)];rfl
 rw[zF h4,zD,if_pos ⟨h1,by omega,by omega⟩];obtain⟨m,rfl⟩:∃m:Nat,at_=m:=⟨at_.toNat,by omega⟩
 rw[ar,Ry style b m hb (by omega) h1,zc];cases hT:vl style b m with
 |inl e=>
  have he:¬e=0:=by
   unfold vl at hT;split at hT
   ·cases hT;decide
   ·split at hT
    ·split at hT
     ·cases hT
     ·cases hT;decide
    ·cases hT
  show(bif(!(decide (e=0))) then _ else _)=_;rw[zF he];rfl
 |inr x=>
  obtain⟨hx,lL⟩:=JC h1 hT;show(bif(!(decide ((0:Int)=0))) then _ else(Q7 (uf x)).bind _)=_;rw[zT rfl,ai,zD,QU _ (QW x) (zo3 x),zc,TL hx,al2 hx];by_cases bR:x<9223372036854775808
  ·rw[zT bR,zC];dsimp only;rw[if_pos bR];rfl
  ·rw[zF bR,zD];dsimp only[CK];rw[Ry style b (m+qy style) hb (by omega) h1,zc,if_neg bR];cases hU:vl style b (m+qy style) with
   |inl e=>
    have he:¬e=0:=by
     unfold vl at hU;split at hU
     ·cases hU;decide
     ·split at hU
      ·split at hU
       ·cases hU
       ·cases hU;decide
      ·cases hU
    show(bif(!(decide (e=0))) then _ else _)=_;rw[zF he];rfl
   |inr y=>
    obtain⟨hy,KW⟩:=JC h1 hU;rw[show CK (m+qy style) style (.inr y)=(uf y,((m+qy style+qy style:Nat):Int),(0:Int)) from rfl];dsimp only;rw[zT rfl,ai,zD];by_cases hz:y=0
    ·rw[zT ((VS hy).2 hz),zC];rw[if_pos hz];rfl
    ·rw[zF (λh=>hz ((VS hy).1 h)),zD,QU _ (QW y) (zo3 y),zc,TL hy,al3 hx bR];rw[if_neg hz];rfl
def lP(style:Int)(t:af):af:=if style=1 then AK t else t
def wB(x:Nat):af:=strOf (uf x)
theorem Hf(x:Nat):bl (wB x)=uf x:=wO (zo3 x)
theorem Kk(x:Nat):(wB x).size=8:=by unfold wB;rw[wM];rfl
theorem Hn{style:Int}(x:Nat):(lP style (wB x)).size=qy style:=by
 unfold lP qy;split
 ·rw[Sx,Kk]
 ·exact Kk x
def l9(style:Int)(h l:Nat):af×Int:=
 if(style=1\/style=2)/\h<9223372036854775808 then((if l=0 then lP style (wB h) else lP style (wB (h+9223372036854775808))++lP style (wB l)),0) else(bs [],1)
theorem zml:∀a b:List Int,nk (a++b)=nk a++nk b
 | [],b=>rfl
 |x::r,b=>by rw[List.cons_append,nk,nk,zml r b];rfl
theorem abP(a b:af):AK (a++b)=AK a++AK b:=by unfold AK;rw[tR,zml,acj]
theorem acv(style:Int)(a b:af):lP style (a++b)=lP style a++lP style b:=by
 unfold lP;split
 ·exact abP a b
 ·rfl
theorem Re{h l:Nat}(hh:h<lK):hG h l 1= !decide (h<9223372036854775808):=by
 have e:hG h l 1=h.testBit 63:=by unfold hG;rw[if_pos (by decide)];rfl
 rw[e];rcases eB h 9223372036854775808 with h1|h1
 ·rw[zT h1];exact dx (by rw[show(2:Nat)^63=9223372036854775808 from by decide];exact h1)
 ·rw[zF (by omega),eR];have hh:h<18446744073709551616:=hh;exact zT (by omega)
theorem anm{h:Nat}(hh:h<9223372036854775808):h|||9223372036854775808=h+9223372036854775808:=by have:=jf (i:=63) (b:=h) (by rw[show(2:Nat)^63=9223372036854775808 from by decide];exact hh) 1;rw[show(2:Nat)^63=9223372036854775808 from by decide,Nat.mul_one] at this;rw[Nat.or_comm,<-this,Nat.add_comm]
theorem zx0(x:af):x++bs []=x:=by apply j5;simp [fM,bs]
theorem aix(style:Int)(h l:Nat)(hh:h<lK)(hl:l<lK):Q6 style ((h:Int),(l:Int),())=some (l9 style h l):=by
 have hk:Q9 style=some (decide (style=1\/style=2)):=by
  unfold Q9 vL;by_cases h1:style=1
  ·rw[zT (p:=style=1\/style=2) (.inl h1),zT h1];rfl
  ·rw[zF h1,zD];by_cases h2:style=2
   ·rw[zT (p:=style=1\/style=2) (.inr h2),zT h2]
   ·rw[zF (p:=style=1\/style=2) (λh=>h.elim h1 h2),zF h2]
 unfold Q6 ym l9;rw[hk,zc];by_cases h1:style=1\/style=2
 case neg=>rw[zF h1,if_neg (λh=>h1 h.1)];rfl
 rw[zT h1,ai,zD,al6 h l hh hl,zc,Re hh];by_cases h2:h<9223372036854775808
 case neg=>rw[zF h2,if_neg (λh=>h2 h.2)];rfl
 rw[zT h2,ai,zD,if_pos ⟨h1,h2⟩];have hH:Uu ((h:Int),(l:Int),())=some ((h:Int),(l:Int)):=rfl;rw[hH,zc];dsimp only;rw[zo4,zc];have z8:∀x:Nat,Nat.beq 8 (ag (uf x))=true:=λx=>rfl;have fin:∀t:af,t.size<=16->(bif decide (style=1) then(sM t).bind λr6=>some (r6,(0:Int)) else some (t,0))=some (lP style t,0):=λt ht=>by
  unfold lP;by_cases hs:style=1
  ·rw[zT hs,zC,zrw t (by omega),if_pos hs];rfl
  ·rw[zF hs,if_neg hs];rfl
 by_cases hz:l=0
 ·rw[zT ((VS hl).2 hz),if_pos hz,ai,zD,zo4,zc,z8,zC];have lL:(strOf (uf h)).size=8:=Kk h;rw[zT (by rw[lL];decide),zC,zx0];exact fin (wB h) (by rw[Kk];decide)
 ·have hor:dv .or .u64 (h:Int) (9223372036854775808:Int)=((h+9223372036854775808:Nat):Int):=by rw[show(9223372036854775808:Int)=((9223372036854775808:Nat):Int) from rfl,EZ hh (by decide),anm h2]
  rw[zF (λe=>hz ((VS hl).1 e)),if_neg hz,aY,zC,z8,zC,hor,zo4,zc,z8,zC];have lL:∀x,(strOf (uf x)).size=8:=λx=>Kk x;rw[zT (by rw[lL,lL];decide),zC,<-acv];exact fin (wB _++wB l) (by rw[ss,Kk,Kk];decide)
theorem alH(b:af){a:Nat}{style:Int}(h:a+qy style<=b.size):(b.extract a (a+qy style)).size=qy style:=J0 h
theorem zo2{style:Int}{v:Nat}(hs:style=1\/style=2)(hv:v<18446744073709551616)(x y:af):vl style (x++lP style (wB v)++y) x.size= .inr v:=by
 have hz:=Hn (style:=style) v;unfold vl;rw[if_neg (by rw[ss,ss];omega),<-hz,Yu];rcases hs with rfl|rfl
 ·rw[if_pos rfl];unfold lP;rw[if_pos rfl,z138];dsimp only;rw[if_pos rfl,Hf,TL hv]
 ·rw[if_neg (by decide)];unfold lP;rw[if_neg (by decide),Hf,TL hv]
theorem zy0{style:Int}{b:af}{a v:Nat}(hs:style=1\/style=2)(h:vl style b a= .inr v):lP style (wB v)=b.extract a (a+qy style)/\v<18446744073709551616/\a+qy style<=b.size:=by
 obtain⟨h1,h2⟩:=JC hs h;refine⟨?_,h1,h2⟩;have hz:=alH b h2;unfold vl at h;rw[if_neg (by omega)] at h;unfold lP wB;rcases hs with rfl|rfl
 ·rw[if_pos rfl] at h⊢;split at h
  case isFalse=>cases h
  rename_i ho;generalize hg:vz (b.extract a (a+qy 1))=g at h ho;obtain⟨t,i,ok⟩:=g;dsimp only at h ho;subst ho;injection h with h
  have ht:=Cb hg hz;obtain⟨e1,_⟩:=TU (l:=bl t) (by rw[zg];exact ht) λy hy=>su hy;rw[<-h,e1,CU,(zh0 hg).1]
 ·rw[if_neg (by decide)] at h⊢;injection h with h
  obtain⟨e1,_⟩:=TU (l:=bl (b.extract a (a+qy 2))) (by rw[zg];exact hz) λy hy=>su hy;rw[<-h,e1,CU]
theorem zo1{style:Int}{h l:Nat}(hs:style=1\/style=2)(hh:h<9223372036854775808):l9 style h l=((if l=0 then lP style (wB h) else lP style (wB (h+9223372036854775808))++lP style (wB l)),0):=by unfold l9;rw[if_pos ⟨hs,hh⟩]
theorem alv{style:Int}{h l:Nat}(hs:style=1\/style=2)(hh:h<9223372036854775808)(hl:l<18446744073709551616)(x y:af):jo style (x++(l9 style h l).1++y) x.size=(h,l,((x.size+(l9 style h l).1.size:Nat):Int),0):=by
 rw[zo1 hs hh];dsimp only;unfold jo;rw[if_pos ⟨hs,by omega,by simp only[ss];omega⟩,ar];by_cases hz:l=0
 ·rw[if_pos hz,zo2 hs (by omega) x y];dsimp only;rw[if_pos hh,Hn,hz]
 ·rw[if_neg hz];have e1:x++(lP style (wB (h+9223372036854775808))++lP style (wB l))++y=x++lP style (wB (h+9223372036854775808))++(lP style (wB l)++y):=by simp [df]
  have e2:x++(lP style (wB (h+9223372036854775808))++lP style (wB l))++y=(x++lP style (wB (h+9223372036854775808)))++lP style (wB l)++y:=by simp [df]
  have t1:=zo2 hs (v:=h+9223372036854775808) (by omega) x (lP style (wB l)++y);have t2:=zo2 hs hl (x++lP style (wB (h+9223372036854775808))) y;rw[<-e1] at t1;rw[<-e2,ss,Hn] at t2;rw[t1];dsimp only;rw[if_neg (by omega),t2];dsimp only;rw[if_neg hz,ss,Hn,Hn,show h+9223372036854775808-9223372036854775808=h by omega,Nat.add_assoc]
theorem Ph{style z:Int}{b:af}{a h l:Nat}(hg:jo style b a=(h,l,z,0)):(style=1\/style=2)/\h<9223372036854775808/\l<18446744073709551616/\(a:Int)<=z/\z<=b.size/\(l9 style h l).1=b.extract a z.toNat:=by
 unfold jo at hg;split at hg
 case isFalse=>cases hg
 rename_i hc;obtain⟨hs,h0,h1⟩:=hc;rw[ar] at hg;cases hT:vl style b a with
 |inl e=>
  exfalso;rw[hT] at hg;have he:e=0:=by have:=congrArg (λr:Nat×Nat×Int×Int=>r.2.2.2) hg;exact this
  subst he;unfold vl at hT;split at hT
  ·cases hT
  ·split at hT
   ·split at hT<;>cases hT
   ·cases hT
 |inr x=>
  rw[hT] at hg;obtain⟨e1,e2,e3⟩:=zy0 hs hT;dsimp only at hg;split at hg
  ·rename_i bR;injection hg with g1 g2
   injection g2 with g2 g3
   injection g3 with g3 _
   subst g1 g2 g3;refine⟨hs,bR,by decide,by omega,by omega,?_⟩;rw[zo1 hs bR,if_pos rfl,e1,ar]
  ·rename_i UJ;cases hU:vl style b (a+qy style) with
   |inl e=>
    exfalso;rw[hU] at hg;have he:e=0:=by have:=congrArg (λr:Nat×Nat×Int×Int=>r.2.2.2) hg;exact this
    subst he;unfold vl at hU;split at hU
    ·cases hU
    ·split at hU
     ·split at hU<;>cases hU
     ·cases hU
   |inr y=>
    rw[hU] at hg;obtain⟨f1,f2,f3⟩:=zy0 hs hU;dsimp only at hg;split at hg
    ·exfalso;have:=congrArg (λr:Nat×Nat×Int×Int=>r.2.2.2) hg;cases this
    ·rename_i hz;injection hg with g1 g2
     injection g2 with g2 g3
     injection g3 with g3 _
     subst g1 g2 g3;refine⟨hs,by omega,f2,by omega,by omega,?_⟩;rw[zo1 hs (by omega),if_neg hz,show x-9223372036854775808+9223372036854775808=x by omega,e1,f1,ar];exact TM _ (by omega) (by omega)
end eD

set_option maxRecDepth 10000
namespace eD
open Go.IntKind renaming wrap->zW,i64->zI,u8->zU
open Go Go.Ref
theorem Se{α:Type}{p:Prop}[Decidable p](h:p){x y:α}:(bif !decide p then x else y)=y:=by rw[zT h];rfl
theorem Sd{α:Type}{p:Prop}[Decidable p](h:¬p){x y:α}:(bif !decide p then x else y)=x:=by rw[zF h];rfl
theorem ank(l:List Int):decide ((1:Int)∈l)= !decide (kB l<9223372036854775808):=by rw[<-Re (l:=lf l) (AE l),Kj];unfold rA;rw[zT (p:=(1:Int)<=1/\(1:Int)<=128) (by decide),eU]
def oR(m:af):Bool:=decide ((m.size:Int)=4)&&eJ (bl m)
theorem xV{m:af}:oR m=true↔m.size=4/\eJ (bl m)=true:=by unfold oR;rw[ap,decide_eq_true_eq];constructor<;>intro h<;>exact⟨by omega,h.2⟩
theorem zaj(m:af)(h:m.size<=maxLen):xj m=some (oR m):=by
 unfold xj WS oR;cases decide ((m.size:Int)=4) with
 |false=>rfl
 |true=>rw[zC,YF m h];rfl
theorem ac1(m:af)(h:m.size<=maxLen):HM m=some (oR m):=by
 unfold HM z162 oR;cases decide ((m.size:Int)=4) with
 |false=>rfl
 |true=>rw[zC,O0 m h];rfl
theorem Fw{m:af}(h:oR m=true)(i:Nat)(hi:i<4):48<=ze m i/\ze m i<=57:=by
 obtain⟨h1,h2⟩:=xV.1 h;have hl:i<(bl m).length:=by rw[zg];omega
 have:=aR.1 h2 _ (b6 hl);rw[uF,al,av hl];exact of_decide_eq_true this
def pG(m:af):Int:=bif oR m then ze m 0-48 else 0
def mM(m:af):Bool:=oR m&&(decide (ze m 2=48)||decide (ze m 2=50))
theorem Vm(m:af)(h:m.size<=maxLen):rY m=some (pG m,oR m):=by
 unfold rY WT pG;rw[zaj m h,au];cases hr:oR m with
 |false=>rfl
 |true=>obtain⟨h1,_⟩:=xV.1 hr;have:=Fw hr 0 (by omega);simp only[ai,zD,zC];rw[zp (by omega) (by omega),show(0:Int).toNat=0 from rfl,CO (by omega) (by omega),zj (by omega) (by omega)]
theorem zcl(m:af)(h:m.size<=maxLen):xi m=some (mM m):=by
 unfold xi WQ mM;rw[zaj m h,au];cases hr:oR m with
 |false=>rfl
 |true=>obtain⟨h1,_⟩:=xV.1 hr;rw[zC,zp (by omega) (by omega),zp (by omega) (by omega),show(2:Int).toNat=2 from rfl];cases decide (ze m 2=48)<;>rfl
theorem zfz(m:af)(h:m.size<=maxLen):Dl m=some (mM m):=by
 unfold Dl Qi mM;rw[ahb m h,au];unfold mD;by_cases h4:m.size=4
 ·cases hd:eJ (bl m) with
  |false=>
   rw[if_neg (by simp)];have:oR m=false:=by unfold oR;rw[hd,eL]
   rw[this];rfl
  |true=>
   have hr:oR m=true:=xV.2 ⟨h4,hd⟩;rw[if_pos ⟨by rw[zg];omega,by rw[zg];omega,rfl⟩,hr];dsimp only;rw[zC,zT (by omega),zC,dW];have hl:(bl m).length=4:=by rw[zg,h4]
   obtain⟨d0,d1,d2,d3,hb⟩:∃d0 d1 d2 d3,bl m=[d0,d1,d2,d3]:=by
    match hm:bl m,hl with
    | [d0,d1,d2,d3],_=>exact⟨d0,d1,d2,d3,rfl⟩
   have h0:=Fw hr 0 (by omega);have h1:=Fw hr 1 (by omega);have h2:=Fw hr 2 (by omega);have h3:=Fw hr 3 (by omega);rw[uF,hb] at h0 h1 h2 h3;rw[uF,hb];simp only[List.getD_cons_zero,lF] at h0 h1 h2 h3⊢;have hv:nV [d0,d1,d2,d3] 0=1000*(d0-48)+100*(d1-48)+10*(d2-48)+(d3-48):=by simp only[nV,cm,List.foldl_nil];omega
   have hq:cB (zW zI (dc (nV [d0,d1,d2,d3] 0) 10)) 10=d2-48:=by rw[hv,js (by omega),zj (by omega) (by omega),dS (by omega)];omega
   rw[hq];by_cases e1:d2=48
   ·rw[zT e1,zT (by omega:d2-48=0)];rfl
   ·rw[zF e1,zF (by omega:¬d2-48=0),zD,Bool.false_or];congr 1;exact decide_eq_decide.2 (by omega)
 ·have:oR m=false:=by unfold oR;rw[zF (by omega),Bool.false_and]
  rw[this];cases(if 1<=(bl m).length/\(bl m).length<=18/\eJ (bl m)=true then(nV (bl m) 0,true) else((0:Int),false)).2 with
  |false=>rfl
  |true=>rw[zC,zF (by omega)];rfl
def qX(m:af)(v:Int):Bool:=oR m&&decide (ze m 0-48=v)
theorem zhu(m:af)(v:Int)(h:m.size<=maxLen):Dn m v=some (qX m v):=by
 unfold Dn Qy qX;rw[ac1 m h,au];cases hr:oR m with
 |false=>rfl
 |true=>obtain⟨h1,_⟩:=xV.1 hr;have:=Fw hr 0 (by omega);have w1:zW zI (ze m 0)=ze m 0:=zj (by omega) (by omega);rw[zC,zp (by omega) (by omega),show(0:Int).toNat=0 from rfl,w1,zj (by omega) (by omega)];rfl
def vj(p:eY)(a b:zf):Bool:=qX p.1 a.2.1&&(qX p.2.1 b.2.1&&(mM p.1==mM p.2.1))
theorem ajP(p:eY)(a b:zf)(h1:p.1.size<=maxLen)(h2:p.2.1.size<=maxLen):xr p a b=some (vj p a b):=by
 unfold xr Yo vj qX;rw[Vm _ h1,Vm _ h2,zcl _ h1,zcl _ h2];simp only[au];unfold pG;cases oR p.1 with
 |false=>rfl
 |true=>
  cases oR p.2.1 with
  |false=>simp
  |true=>
   simp only[zC,dW];cases decide (ze p.1 0-48=a.2.1) with
   |false=>rfl
   |true=>
    cases decide (ze p.2.1 0-48=b.2.1) with
    |false=>rfl
    |true=>rfl
abbrev fL:=af×List eH×Unit
abbrev gh:=Int×Int×Unit
abbrev wK:eH:=(0,bs [],())
abbrev pT:gh:=(0,0,())
structure nf(m:fL):Prop where
 CD:m.1.size<=9223372036854775807
 len:m.2.1.length<=1000000
 yS:∀v∈m.2.1,v.2.1.size<=1099511627776
def n3(l:List eH)(no:Int):List eH:=l.filter λv=> !decide (v.1=no)
theorem zyd(l:List eH)(no:Int):(n3 l no).length<=l.length:=List.length_filter_le _ _
theorem zap(no:Int)(fin:fL×fL->ae (fL×fL)):∀(l:List eH) (i:Int) (s:fL×fL),s.2.2.1.length+l.length<=1000000000->
 fD (λi (x:eH) (s:fL×fL) K=>(bif(!(decide (x.1=no))) then(bif(decide ((s.2.2.1.length+(ag ([x]:List eH)))*24<=140737488355328)) then K (s.1,(s.2.1,(s.2.2.1++([x]:List eH)),())) else none) else K s)) fin l i s=fin (s.1,(s.2.1,s.2.2.1++n3 l no,()))
 | [],i,s,_=>by show fin s=_;simp [n3]
 |x::r,i,s,h=>by
  simp only[aB] at h;rw[fD];by_cases hx:x.1=no
  ·rw[zT hx,ai,zD];refine(zap no fin r (i+1) s (by omega)).trans ?_;simp [n3,hx]
  ·rw[zF hx,aY,zC,zT (by simp only[cr];omega),zC];refine(zap no fin r (i+1) (s.1,(s.2.1,s.2.2.1++ [x],())) (by simp only[aF,cr];omega)).trans ?_;simp [n3,hx]
theorem acm(m:fL)(no:Int)(h:m.2.1.length<=1000000):Bp m no=some (m.1,n3 m.2.1 no,()):=by
 unfold Bp WO;dsimp only;have:=jJ wK m.2.1 (by rw[zh];omega) (λi (x:eH) (s:fL×fL) K=>(bif(!(decide (x.1=no))) then(bif(decide ((s.2.2.1.length+(ag ([x]:List eH)))*24<=140737488355328)) then K (s.1,(s.2.1,(s.2.2.1++([x]:List eH)),())) else none) else K s)) (λs=>some s)
  (λk i s=>Tn k no m.2.1 (m.2.1.length:Int) i s.1 s.2) (λk i s=>rfl) ((bs [],[],()),(m.1,[],()))
 rw[this,zap no _ _ _ _ (by simp;omega)];rfl
def iH(no:Int):List eH->Int->Int
 | [],_=> -1
 |x::r,i=>if no<x.1 then i else iH no r (i+1)
theorem Sy(no:Int):∀(l:List eH) (i:Int),0<=i->(iH no l i= -1/\∀x∈l,x.1<=no)\/(i<=iH no l i/\iH no l i<i+l.length)
 | [],i,h=> .inl ⟨rfl,λx hx=>by cases hx⟩
 |x::r,i,h=>by
  unfold iH;by_cases hx:no<x.1
  ·rw[if_pos hx];right;simp only[aB];omega
  ·rw[if_neg hx];rcases Sy no r (i+1) (by omega) with⟨h1,h2⟩|h1
   ·left;refine⟨h1,λy hy=> ?_⟩;rcases aD.1 hy with rfl|hy
    ·omega
    ·exact h2 y hy
   ·right;simp only[aB];omega
def exV(r no:Int):Sum (Int×Int) Int:=bif decide (r<0) then .inr no else .inl (r,no)
theorem zz2(no:Int):∀(l:List eH) (i:Int),0<=i->fD (λi (x:eH) (s:Int) K=>((Bn x s).bind λr1=>(bif r1.1 then some (Sum.inl (i,r1.2)) else K r1.2))) (λs=>some (Sum.inr s)) l i no=some (exV (iH no l i) no)
 | [],i,h=>rfl
 |x::r,i,h=>by
  rw[fD,iH];show(bif decide (no<x.1) then some (Sum.inl (i,no)) else fD _ _ r (i+1) no)=_;by_cases hx:no<x.1
  ·rw[zT hx,zC,if_pos hx];unfold exV;rw[zF (by omega)];rfl
  ·rw[zF hx,zD,if_neg hx];exact zz2 no r (i+1) (by omega)
theorem acX(l:List eH)(no:Int)(h:l.length<=1000000):BH l no=some (iH no l 0,no):=by
 unfold BH XE;dsimp only;have:=jJ wK l (by rw[zh];omega) (λi (x:eH) (s:Int) K=>((Bn x s).bind λr1=>(bif r1.1 then some (Sum.inl (i,r1.2)) else K r1.2))) (λs=>some (Sum.inr s))
  (λk i s=>TA k l (l.length:Int) i s) (λk i s=>rfl) no
 rw[this,zz2 no l 0 (c9 _),zc];unfold exV;rcases Sy no l 0 (c9 _) with⟨h1,_⟩|h1
 ·rw[h1];rfl
 ·rw[zF (by omega)];rfl
theorem agz(old:List eH)(at_:Nat)(v d:eH)(h:at_<=old.length):
 gX (b8 (gX (aw (old.length+1) d) (aJ (old.length+1) (bu 0 (aJ at_ old))) 0) at_ v) (aJ (old.length+1-(at_+1)) (bu at_ (aJ old.length old))) (at_+1)=old.take at_++v::old.drop at_:=by
 have e1:aJ (old.length+1) (bu 0 (aJ at_ old))=old.take at_:=by rw[aN,List.take_take,Nat.min_eq_right (by omega)]
 have e2:aJ (old.length+1-(at_+1)) (bu at_ (aJ old.length old))=old.drop at_:=by rw[cF,bV (by rw[bF];omega)]
 rw[e1,e2];have hl:(old.take at_).length=at_:=by rw[aU];omega
 have e3:gX (aw (old.length+1) d) (old.take at_) 0=old.take at_++aw (old.length+1-at_) d:=by unfold gX;rw[cZ,bD,hl,Nat.zero_add,List.drop_replicate]
 obtain⟨n,hn⟩:∃n,old.length+1-at_=n+1:=⟨old.length-at_,by omega⟩
 have e4:b8 (old.take at_++aw (old.length+1-at_) d) at_ v=old.take at_++v::aw n d:=by rw[hn,fh,List.set_append,if_neg (by omega),hl,Nat.sub_self,List.set_cons_zero]
 rw[e3,e4];unfold gX;have e5:(old.take at_++v::aw n d).take (at_+1)=old.take at_++ [v]:=by rw[List.take_append,hl,show at_+1-at_=1 by omega,bV (by omega)];rfl
 have e6:(old.take at_++v::aw n d).drop (at_+1+(old.drop at_).length)=[]:=by apply aK;rw[aF,hl,aB,fN,bF];omega
 rw[e5,e6,bM,aQ];rfl
theorem OY(q t:af)(no:Int)(old:List eH)(at_:Nat)(h:at_<=old.length)(hl:old.length<=1000000):
 (bif(decide ((zW zI (((ag old):Int)+(1:Int)))=(zW zI (((ag old):Int)+(1:Int))))) then(bif(decide ((0:Int)<=(zW zI (((ag old):Int)+(1:Int))))) then(bif(decide ((zW zI (((ag old):Int)+(1:Int)))*24<=140737488355328)) then(bif(decide ((0:Int)<=((at_:Nat):Int))) then(bif(decide (((at_:Nat):Int)<=(((ag old):Nat):Int))) then(bif(Nat.beq ((zW zI (((ag old):Int)+(1:Int)))).toNat (ag (aw ((zW zI (((ag old):Int)+(1:Int)))).toNat ((0:Int),(bs []),())))) then(zd ((at_:Nat):Int) ((zW zI (((ag old):Int)+(1:Int)))).toNat (bif(Nat.ble ((((at_:Nat):Int)).toNat+1) (ag (gX (aw ((zW zI (((ag old):Int)+(1:Int)))).toNat ((0:Int),(bs []),())) (aJ ((zW zI (((ag old):Int)+(1:Int)))).toNat (bu 0 (aJ (((at_:Nat):Int)).toNat old))) 0))) then(bif(decide ((0:Int)<=(zW zI (((at_:Nat):Int)+(1:Int))))) then(bif(decide ((zW zI (((at_:Nat):Int)+(1:Int)))<=((((zW zI (((ag old):Int)+(1:Int)))).toNat:Nat):Int))) then(bif(decide ((0:Int)<=((at_:Nat):Int))) then(bif(decide (((at_:Nat):Int)<=(((ag old):Nat):Int))) then(bif(Nat.beq ((zW zI (((ag old):Int)+(1:Int)))).toNat (ag (b8 (gX (aw ((zW zI (((ag old):Int)+(1:Int)))).toNat ((0:Int),(bs []),())) (aJ ((zW zI (((ag old):Int)+(1:Int)))).toNat (bu 0 (aJ (((at_:Nat):Int)).toNat old))) 0) (((at_:Nat):Int)).toNat (no,t,())))) then(bif(Nat.ble ((zW zI (((at_:Nat):Int)+(1:Int)))).toNat ((zW zI (((ag old):Int)+(1:Int)))).toNat) then(bif(Nat.beq ((zW zI (((ag old):Int)+(1:Int)))).toNat (ag (gX (b8 (gX (aw ((zW zI (((ag old):Int)+(1:Int)))).toNat ((0:Int),(bs []),())) (aJ ((zW zI (((ag old):Int)+(1:Int)))).toNat (bu 0 (aJ (((at_:Nat):Int)).toNat old))) 0) (((at_:Nat):Int)).toNat (no,t,())) (aJ (((zW zI (((ag old):Int)+(1:Int)))).toNat-((zW zI (((at_:Nat):Int)+(1:Int)))).toNat) (bu (((at_:Nat):Int)).toNat (aJ (ag old) old))) ((zW zI (((at_:Nat):Int)+(1:Int)))).toNat))) then(some (q,(gX (b8 (gX (aw ((zW zI (((ag old):Int)+(1:Int)))).toNat ((0:Int),(bs []),())) (aJ ((zW zI (((ag old):Int)+(1:Int)))).toNat (bu 0 (aJ (((at_:Nat):Int)).toNat old))) 0) (((at_:Nat):Int)).toNat (no,t,())) (aJ (((zW zI (((ag old):Int)+(1:Int)))).toNat-((zW zI (((at_:Nat):Int)+(1:Int)))).toNat) (bu (((at_:Nat):Int)).toNat (aJ (ag old) old))) ((zW zI (((at_:Nat):Int)+(1:Int)))).toNat),())) else none) else none) else none) else none) else none) else none) else none) else none)) else none) else none) else none) else none) else none) else none)=some (q,old.take at_++(no,t,())::old.drop at_,()):=by
 have w1:zW zI ((old.length:Int)+1)=((old.length+1:Nat):Int):=zu (by omega);have w2:zW zI ((at_:Int)+1)=((at_+1:Nat):Int):=zu (by omega);simp only[w1,w2,ar];have key:=agz old at_ (no,t,()) ((0:Int),bs [],()) h;have l1:(gX (aw (old.length+1) ((0:Int),(bs []),())) (aJ (old.length+1) (bu 0 (aJ at_ old))) 0).length=old.length+1:=by unfold gX;simp;omega
 have l2:(old.take at_++(no,t,())::old.drop at_).length=old.length+1:=by rw[aF,aU,aB,bF];omega
 have d2:decide ((0:Int)<=((old.length+1:Nat):Int))=true:=zT (by omega);have d3:decide (((old.length+1:Nat):Int)*24<=140737488355328)=true:=zT (by omega);have d4:decide ((0:Int)<=(at_:Int))=true:=zT (by omega);have d5:decide ((at_:Int)<=(old.length:Int))=true:=zT (by omega);have d9:decide ((0:Int)<=((at_+1:Nat):Int))=true:=zT (by omega);have d10:decide (((at_+1:Nat):Int)<=((old.length+1:Nat):Int))=true:=zT (by omega);have b1:Nat.ble (at_+1) (old.length+1)=true:=kP (by omega);have hw:∀{R:Type} (x:ae R),zd (at_:Int) (old.length+1) x=x:=λx=>zi (by omega);simp only[decide_true,zC,d2,d3,d4,d5,fN,Nat.beq_refl,hw,l1,b1,d9,d10,List.length_set,key,l2]
def va(l:List eH)(no:Int)(t:af):List eH:=
 bif decide (iH no l 0<0) then l++ [(no,t,())] else l.take (iH no l 0).toNat++(no,t,())::l.drop (iH no l 0).toNat
def nv(m:fL)(no:Int)(t:af):fL:=(m.1,va (n3 m.2.1 no) no t,())
theorem VN(m:fL)(no:Int)(t:af)(h:m.2.1.length<=1000000):qD m no t=some (nv m no t):=by
 unfold qD WM nv;have hl:=zyd m.2.1 no;rw[acm m no h,zc];dsimp only;generalize n3 m.2.1 no=old at*;rw[acX old no (by omega),zc];dsimp only;unfold va;rcases Sy no old 0 (c9 _) with⟨h1,_⟩|h1
 ·rw[h1,zT (by omega:(-1:Int)<0),zC,zC];refine(OY m.1 t no old old.length (aZ _) (by omega)).trans ?_;rw[cF,List.drop_length]
 ·rw[zF (by omega:¬iH no old 0<0),zD,zD];obtain⟨n,hn⟩:∃n:Nat,iH no old 0=n:=⟨(iH no old 0).toNat,by omega⟩
  rw[hn];refine(OY m.1 t no old n (by omega) (by omega)).trans ?_;rw[ar]
def A4(s:zf):List eH->Int->ae gh
 | [],_=>none
 |x::r,last=>bif decide (x.1<=last) then some (11,x.1,()) else bif !eK s x.1 then some (9,x.1,()) else bif !decide (eS (cV s x.1) x.2.1=0) then some (eS (cV s x.1) x.2.1,x.1,()) else A4 s r x.1
def Ra(o:ae gh):ae (Sum gh gh):=some (match o with
 |some f=> .inl f
 |none=> .inr pT)
theorem zrk(s:zf)(hs:s.2.2.1.length<=maxLen):∀(l:List eH) (i last:Int),(∀v∈l,v.2.1.size<=1099511627776)->
 fD (λi (x:eH) (t9:Int) K=>(bif(decide (x.1<=t9)) then some (Sum.inl ((11:Int),x.1,())) else((oU s x.1).bind λr3=>(bif(!r3.2) then some (Sum.inl ((9:Int),x.1,())) else((gV r3.1 x.2.1).bind λr4=>(bif(!(decide (r4=(0:Int)))) then some (Sum.inl (r4,x.1,())) else K x.1)))))) (λ_=>some (Sum.inr pT)) l i last=Ra (A4 s l last)
 | [],i,last,_=>rfl
 |x::r,i,last,h=>by
  rw[fD,A4,Hp s _ hs,zc];cases decide (x.1<=last) with
  |true=>rfl
  |false=>
   rw[zD,zD];dsimp only;cases eK s x.1 with
   |false=>rfl
   |true=>
    rw[ai,zD,zD,Fi _ _ (h x aM),zc];cases decide (eS (cV s x.1) x.2.1=0) with
    |false=>rfl
    |true=>rw[ai,zD,zD];exact zrk s hs r (i+1) x.1 (λv hv=>h v (aE _ hv))
def pP(s:zf)(m:fL):gh:=
 bif !decide ((qx s).1=0) then(1,-1,()) else bif !oR m.1 then(7,0,()) else bif !decide (pG m.1=s.2.1) then(7,0,()) else match A4 s m.2.1 0 with
  |some f=>f
  |none=>pT
theorem zms(s:zf)(m:fL)(hs:s.2.2.1.length<=maxLen)(h:nf m):zE s m=some (pP s m):=by
 unfold zE WH pP;rw[SR s hs,zc,Vm m.1 (by rw[zh];exact h.CD),zc];cases decide ((qx s).1=0) with
 |false=>rfl
 |true=>
  rw[ai,zD,zD];dsimp only;cases oR m.1 with
  |false=>rfl
  |true=>
   rw[ai,zD,zD];cases decide (pG m.1=s.2.1) with
   |false=>rfl
   |true=>
    rw[ai,zD,zD];have hl:=h.len;have:=jJ wK m.2.1 (by rw[zh];omega) (λi (x:eH) (t9:Int) K=>(bif(decide (x.1<=t9)) then some (Sum.inl ((11:Int),x.1,())) else((oU s x.1).bind λr3=>(bif(!r3.2) then some (Sum.inl ((9:Int),x.1,())) else((gV r3.1 x.2.1).bind λr4=>(bif(!(decide (r4=(0:Int)))) then some (Sum.inl (r4,x.1,())) else K x.1)))))) (λ_=>some (Sum.inr pT))
     (λk i t9=>Tk k t9 m.2.1 (m.2.1.length:Int) i s pT) (λk i t9=>rfl) 0
    rw[this,zrk s hs _ _ _ h.yS];unfold Ra;cases A4 s m.2.1 0<;>rfl
theorem alS{a b:fL}:a=b↔a.1=b.1/\a.2.1=b.2.1:=⟨λh=>by rw[h];exact⟨rfl,rfl⟩,λh=>Prod.ext h.1 (Prod.ext h.2 rfl)⟩
abbrev Map:=List eY×List dC×Unit
structure mB(m:Map):Prop where
 xI:nF m.1
 len:m.2.1.length<=1000000
 rules:∀r∈m.2.1,oW r
def nJ(a b:zf):List af->List eY->Int->ae (Int×Int)
 |_,[],_=>none
 |seen,p::r,i=>if vj p a b=true then(if p.1∈seen then some (10,i) else nJ a b (seen++ [p.1]) r (i+1)) else some (7,i)
abbrev Xr:=Sum (Int×Int×Int×Map×zf×zf) (Map×zf×zf)
def wE(m:Map)(a b:zf)(o:ae (Int×Int)):ae Xr:=some (match o with
 |some e=> .inl (e.1,2,e.2,m,a,b)
 |none=> .inr (m,a,b))
theorem PL(m:Map)(a b:zf):∀(l:List eY) (i:Int) (seen:List af),(∀p∈l,p.1.size<=1099511627776/\p.2.1.size<=1099511627776)->
 fD (λi (x:eY) (s:List sc) K=>((xr x a b).bind λr2=>(bif(!r2) then some (Sum.inl ((7:Int),(2:Int),i,m,a,b)) else(bif n7 (pf .str) false s x.1 then some (Sum.inl ((10:Int),(2:Int),i,m,a,b)) else(bif n8 (pf .str) s x.1 then none else K (s++ [(x.1,true)])))))) (λ_=>some (Sum.inr (m,a,b))) l i (mR seen)=wE m a b (nJ a b seen l i)
 | [],i,seen,_=>rfl
 |p::r,i,seen,h=>by
  obtain⟨h1,h2⟩:=h p aM;simp only[fD,nJ];rw[ajP p a b (by rw[zh];omega) (by rw[zh];omega),au];cases vj p a b with
  |false=>rw[if_neg (by simp)];rfl
  |true=>
   rw[if_pos rfl];simp only[ai,zD];have e1:=VF (pf .str) (λ_ _=>rfl) p.1 seen;have e2:=VG (pf .str) (λ_ _=>rfl) p.1 seen;by_cases hm:p.1∈seen
   ·rw[e1.2 hm,if_pos hm];rfl
   ·rw[JW e1 hm,JW e2 hm,if_neg hm,zD,zD,z9h];exact PL m a b r (i+1) (seen++ [p.1]) λq hq=>h q (aE _ hq)
theorem agf(m:Map)(a b:zf)(h:nF m.1):Lu bG m.1 (m.1.length:Int) 0 m a b []=wE m a b (nJ a b [] m.1 0):=by
 have hl:=h.len;have:=jJ ux m.1 (by rw[zh];omega) (λi (x:eY) (s:List sc) K=>((xr x a b).bind λr2=>(bif(!r2) then some (Sum.inl ((7:Int),(2:Int),i,m,a,b)) else(bif n7 (pf .str) false s x.1 then some (Sum.inl ((10:Int),(2:Int),i,m,a,b)) else(bif n8 (pf .str) s x.1 then none else K (s++ [(x.1,true)])))))) (λ_=>some (Sum.inr (m,a,b)))
  (λk i s=>Lu k m.1 (m.1.length:Int) i m a b s) (λk i s=>rfl) []
 rw[this];exact PL m a b m.1 0 [] h.sz
theorem afe(f:af)(l:List eY):(zr l f).2=true↔f∈l.map λp=>p.1:=by
 unfold zr
 induction l with
 |nil=>simp
 |cons p r ih=>
  rw[dn,bd,aD];by_cases h:p.1=f
  ·rw[zT h];exact⟨λ_=> .inl h.symm,λ_=>rfl⟩
  ·rw[zF h];exact ih.trans ⟨.inr,λh'=>h'.resolve_left λe=>h e.symm⟩
theorem zmt(m:Map)(a b:zf)(h:nF m.1):∀(n j k:Nat),j+n=m.1.length->n<k->S5 k (j:Int) m a b=wE m a b (nJ a b ((m.1.take j).map λp=>p.1) (m.1.drop j) j)
 |n,j,0,_,hk=>by omega
 |0,j,k+1,hj,hk=>by unfold S5 zt9;rw[zF (by omega),show m.1.drop j=[] from aK (by omega)];rfl
 |n+1,j,k+1,hj,hk=>by
  have hl:=h.len;have bR:j<m.1.length:=by omega
  obtain⟨h1,h2⟩:=h.sz _ (b6 bR);have hg:∀d,m.1.getD j d=m.1[j]:=λd=>by rw[al,av bR];rfl
  unfold S5 zt9;rw[zT (by omega),zC,zi bR,ar,hg,zhu _ _ (by rw[zh];omega),au,aO bR];simp only[nJ];cases v1:qX m.1[j].1 a.2.1 with
  |false=>
   have:vj m.1[j] a b=false:=by unfold vj;rw[v1];rfl
   rw[this,if_neg (by simp)];rfl
  |true=>
   simp only[ai,zD];rw[zhu _ _ (by rw[zh];omega),au];cases v2:qX m.1[j].2.1 b.2.1 with
   |false=>
    have:vj m.1[j] a b=false:=by unfold vj;rw[v1,v2];rfl
    rw[this,if_neg (by simp)];rfl
   |true=>
    simp only[ai,zD];rw[zfz _ (by rw[zh];omega),au,zfz _ (by rw[zh];omega),au];cases v3:(mM m.1[j].1==mM m.1[j].2.1) with
    |false=>
     have:vj m.1[j] a b=false:=by unfold vj;rw[v1,v2,v3];rfl
     rw[this,if_neg (by simp)];rfl
    |true=>
     have:vj m.1[j] a b=true:=by unfold vj;rw[v1,v2,v3];rfl
     rw[this,if_pos rfl];simp only[ai,zD];rw[zT (by omega:(0:Int)<=(j:Int)),zT (by omega:(j:Int)<=((m.1.length:Nat):Int)),zC,zC,aN,acR _ _ (by rw[aU,zh];omega),au];have hm:=afe m.1[j].1 (m.1.take j);by_cases lR:m.1[j].1∈(m.1.take j).map λp=>p.1
     ·rw[hm.2 lR,if_pos lR];rfl
     ·rw[JW hm lR,if_neg lR,zD,zu (by omega),zmt m a b h n (j+1) k (by omega) (by omega)];congr 2;rw[jX,av bR,cg];rfl
def q9(x y:dC):Bool:=(!decide (x.2.1=0)&&decide (x.2.1=y.2.1))||(!decide (x.2.2.1=0)&&decide (x.2.2.1=y.2.2.1))
theorem ajO(x y:dC):HS x y=some (q9 x y):=by unfold HS Qx q9;generalize decide (x.2.1=0)=c1;generalize decide (x.2.1=y.2.1)=c2;generalize decide (x.2.2.1=0)=c3;generalize decide (x.2.2.1=y.2.2.1)=c4;cases c1<;>cases c2<;>cases c3<;>cases c4<;>rfl
def xW(a b:zf):List dC->List dC->Int->ae (Int×Int)
 |_,[],_=>none
 |prev,r::l,i=>if lI r a b=0 then(if prev.any (λq=>q9 q r)=true then some (10,i) else xW a b (prev++ [r]) l (i+1)) else some (lI r a b,i)
def zsj(o:ae (Int×Int)):ae (Sum sC Unit):=some (match o with
 |some e=> .inl (e.1,3,e.2)
 |none=> .inr ())
def St(m:Map)(a b:zf)(i:Int)(t:Bool):Sum (Int×Int×Int×Int×Map×zf×zf) (Int×Map×zf×zf):=bif t then .inl (10,3,i,i,m,a,b) else .inr (i,m,a,b)
theorem zxk{m:Map}{j:Nat}(bR:j<m.2.1.length)(d:dC):m.2.1.getD j d=m.2.1[j]:=by rw[al,av bR];rfl
theorem zsr(m:Map)(a b:zf)(i:Nat)(hi:i<m.2.1.length)(hl:m.2.1.length<=1000000):∀(n j k:Nat),j+n=i->n<k->S7 k (i:Int) (j:Int) m a b=some (St m a b i (((m.2.1.take i).drop j).any λq=>q9 q m.2.1[i]))
 |n,j,0,_,hk=>by omega
 |0,j,k+1,hj,hk=>by
  have:j=i:=by omega
  subst this;unfold S7 ztb;rw[zF (by omega),aK (by rw[aU];omega)];rfl
 |n+1,j,k+1,hj,hk=>by
  have bR:j<m.2.1.length:=by omega
  unfold S7 ztb;have hd:(m.2.1.take i).drop j=m.2.1[j]::(m.2.1.take i).drop (j+1):=by rw[aO (by rw[aU];omega)];congr 1;rw[jU]
  rw[zT (by omega),zC,zi bR,zi hi,ar,ar,zxk bR,zxk hi,ajO,au,hd,List.any_cons];cases q9 m.2.1[j] m.2.1[i] with
  |true=>rfl
  |false=>rw[zD,zu (by omega)];dsimp only;rw[zsr m a b i hi hl n (j+1) k (by omega) (by omega),Bool.false_or]
theorem zhg(m:Map)(a b:zf)(h:mB m)(ha:a.2.2.1.length<=maxLen)(hb:b.2.2.1.length<=maxLen):∀(n j k:Nat),j+n=m.2.1.length->n<k->S6 k (j:Int) m a b=zsj (xW a b (m.2.1.take j) (m.2.1.drop j) j)
 |n,j,0,_,hk=>by omega
 |0,j,k+1,hj,hk=>by unfold S6 zta;rw[zF (by omega),aK (by omega)];rfl
 |n+1,j,k+1,hj,hk=>by
  have hl:=h.len;have bR:j<m.2.1.length:=by omega
  unfold S6 zta;rw[zT (by omega),zC,zi bR,ar,zxk bR,acU _ a b (h.rules _ (b6 bR)) ha hb,au,aO bR];simp only[xW];by_cases z:lI m.2.1[j] a b=0
  ·rw[zT z,if_pos z];simp only[ai,zD];have ht:=zsr m a b j bR hl j 0 bG (by omega) (by rw[zv];omega);rw[show((0:Nat):Int)=(0:Int) from rfl,aN] at ht;rw[ht,au];cases(m.2.1.take j).any λq=>q9 q m.2.1[j] with
   |true=>rw[if_pos rfl];rfl
   |false=>rw[if_neg (by simp)];unfold St Qw;simp only[zD,cj];rw[zu (by omega),zhg m a b h ha hb n (j+1) k (by omega) (by omega)];congr 2;rw[jX,av bR];rfl
  ·rw[zF z,if_neg z];rfl
def mi(m:Map)(a b:zf):Int×Int×Int:=
 if(qx a).1=0 then(if(qx b).1=0 then(if 256<m.1.length then(5,2,256) else match nJ a b [] m.1 0 with
  |some e=>(e.1,2,e.2)
  |none=>if 256<m.2.1.length then(5,3,256) else match xW a b [] m.2.1 0 with
   |some e=>(e.1,3,e.2)
   |none=>(0,0,0)) else(1,1,1)) else(1,1,0)
theorem zos(m:Map)(a b:zf)(h:mB m)(ha:a.2.2.1.length<=maxLen)(hb:b.2.2.1.length<=maxLen):HR m a b=some (mi m a b):=by
 have h1:=h.xI.len;have h2:=h.len;unfold HR Qu mi;rw[zcm a ha,au];by_cases za:(qx a).1=0
 ·rw[zT za,if_pos za];simp only[ai,zD];rw[zcm b hb,au];by_cases zb:(qx b).1=0
  ·rw[zT zb,if_pos zb];simp only[ai,zD];by_cases hm:256<m.1.length
   ·rw[zT (by omega),if_pos hm];rfl
   ·rw[zF (by omega),if_neg hm,zD];have e1:=zmt m a b h.xI m.1.length 0 bG (by omega) (by rw[zv];omega);rw[show((0:Nat):Int)=(0:Int) from rfl,cZ,aN,List.map_nil] at e1;rw[e1];unfold wE;cases nJ a b [] m.1 0 with
    |some e=>rfl
    |none=>
     simp only[au,cj];unfold Qv;by_cases hr:256<m.2.1.length
     ·rw[zT (by omega),if_pos hr];rfl
     ·rw[zF (by omega),if_neg hr,zD];have e2:=zhg m a b h ha hb m.2.1.length 0 bG (by omega) (by rw[zv];omega);rw[show((0:Nat):Int)=(0:Int) from rfl,cZ,aN] at e2;dsimp only;rw[e2];unfold zsj;cases xW a b [] m.2.1 0<;>rfl
  ·rw[zF zb,if_neg zb];rfl
 ·rw[zF za,if_neg za];rfl
theorem zzr(l:List Int)(f:Int):kB (l++ [f])=kB l|||kB [f]:=by simp [kB,dM]
theorem zzs(l:List Int)(f:Int):lf (l++ [f])=lf l|||lf [f]:=by simp [lf,dM]
theorem zy1(fs:List Int)(f:Int):(kB fs&&&kB [f]=0/\lf fs&&&lf [f]=0)↔¬(f∈fs/\rA f=true):=by
 constructor
 ·rintro⟨h1,h2⟩ ⟨h3,h4⟩;have:=Rc (kB fs) (lf fs) (kB [f]) (lf [f]) f;rw[h1,h2,zyu,Kj,Kj,h4] at this;simp [h3] at this
 ·intro h;refine Ru (R8 (AE fs)) (R8 (AF fs)) (by decide) (by decide) λn _ _=> ?_;rw[zyu,Rc,Kj,Kj];by_cases e:n=f
  ·subst e;cases hr:rA n with
   |false=>simp
   |true=>have:n∉fs:=λhm=>h ⟨hm,hr⟩;simp [this]
  ·simp [e]
theorem Qe(x y:Nat):(decide (((x:Nat):Int)=0)&&(decide (((y:Nat):Int)=0)&&true))=decide (x=0/\y=0):=by rw[eU,<-Bool.decide_and];exact decide_eq_decide.2 (by omega)
theorem zru{s:zf}(h:pL s){no:Int}(hh:eK s no=true):rA no=true:=by unfold eK pg at hh;obtain⟨x,hx⟩:=Option.isSome_iff_exists.1 hh;have h1:=kV hx;have h2:=cu hx;have h3:=V0 (h.2.2.2.1 x h2);have h4:x.1=no:=of_decide_eq_true h1;unfold rA;exact zT (by omega)
theorem adG{r:dC}{a b:zf}(h:lI r a b=0):lg r a b=false:=by
 unfold lI at h;cases hc:(decide (r.1<1)||decide ((5:Int)<r.1)) with
 |true=>rw[hc] at h;simp at h
 |false=>
  rw[hc] at h;cases he:lg r a b with
  |false=>rfl
  |true=>rw[he] at h;simp at h
theorem ajF{r:dC}{a b:zf}(ha:pL a)(hb:pL b)(h:lI r a b=0):(r.2.1≠0->rA r.2.1=true)/\(r.2.2.1≠0->rA r.2.2.1=true):=by
 have he:=adG h;unfold lg at he;rw[cR] at he;refine⟨λhz=> ?_,λhz=> ?_⟩
 ·by_cases k:r.1=3
  ·rw[zT k,zF hz] at he;simp at he
  ·rw[zF k] at he;exact zru ha (by simpa using he.1)
 ·by_cases k:r.1=2
  ·rw[zT k,zF hz] at he;simp at he
  ·rw[zF k] at he;exact zru hb (by simpa using he.2)
def oE(l:List dC):List Int:=l.map λq=>q.2.1
def Ax(l:List dC):List Int:=l.map λq=>q.2.2.1
theorem PD:rA 0=false:=by decide
theorem agT(prev:List dC)(r:dC)(h1:r.2.1≠0->rA r.2.1=true)(h2:r.2.2.1≠0->rA r.2.2.1=true):
 prev.any (λq=>q9 q r)=(!decide (¬(r.2.1∈oE prev/\rA r.2.1=true))|| !decide (¬(r.2.2.1∈Ax prev/\rA r.2.2.1=true))):=by
 have e:prev.any (λq=>q9 q r)=true↔((r.2.1∈oE prev/\rA r.2.1=true)\/(r.2.2.1∈Ax prev/\rA r.2.2.1=true)):=by
  rw[List.any_eq_true];unfold q9 oE Ax;simp only[bm];constructor
  ·rintro⟨q,hq,h⟩;simp only[Bool.or_eq_true,ap,Bool.not_eq_true',decide_eq_false_iff_not,decide_eq_true_eq] at h;rcases h with⟨g1,g2⟩|⟨g1,g2⟩
   ·exact .inl ⟨⟨q,hq,g2⟩,h1 (by rw[<-g2];exact g1)⟩
   ·exact .inr ⟨⟨q,hq,g2⟩,h2 (by rw[<-g2];exact g1)⟩
  ·rintro(⟨⟨q,hq,g⟩,hr⟩|⟨⟨q,hq,g⟩,hr⟩)
   ·refine⟨q,hq,?_⟩;have:q.2.1≠0:=λe=>by rw[<-g,e,PD] at hr;cases hr
    rw[zF this,zT g];rfl
   ·refine⟨q,hq,?_⟩;have:q.2.2.1≠0:=λe=>by rw[<-g,e,PD] at hr;cases hr
    rw[zF this,zT g];simp
 cases hb:prev.any (λq=>q9 q r) with
 |true=>
  rcases e.1 hb with h|h
  ·rw[zF (λhn=>hn h)];rfl
  ·rw[show decide (¬(r.2.2.1∈Ax prev/\rA r.2.2.1=true))=false from zF (λhn=>hn h)];simp
 |false=>
  have hn:=λh=>(by rw[hb] at e;exact absurd (e.2 h) (by simp):False)
  rw[zT (show¬(r.2.1∈oE prev/\rA r.2.1=true) from λh=>hn (.inl h)),zT (show¬(r.2.2.1∈Ax prev/\rA r.2.2.1=true) from λh=>hn (.inr h))];rfl
abbrev S2:=Int×Int×Unit
def Gn(l:List Int):S2:=((kB l:Int),(lf l:Int),())
theorem zzq(a b:zf)(ha:a.2.2.1.length<=maxLen)(hb:b.2.2.1.length<=maxLen)(oa:pL a)(ob:pL b):∀(l:List dC) (i:Int) (prev:List dC),(∀r∈l,oW r)->
 fD (λi (x:dC) (s:S2×S2) K=>((xm x a b).bind λr3=>(bif(!decide (r3=0)) then some (Sum.inl (r3,(3:Int),i)) else((BP ([x.2.1]:List Int)).bind λr4=>((BP ([x.2.2.1]:List Int)).bind λr5=>((AN s.1 r4).bind λr6=>(bif(!(decide (r6.1=0)&&(decide (r6.2.1=0)&&true))) then some (Sum.inl ((10:Int),(3:Int),i)) else((AN s.2 r5).bind λr7=>(bif(!(decide (r7.1=0)&&(decide (r7.2.1=0)&&true))) then some (Sum.inl ((10:Int),(3:Int),i)) else((BQ s.1 r4).bind λr8=>((BQ s.2 r5).bind λr9=>K (r8,r9)))))))))))) (λ_=>some (Sum.inr ())) l i (Gn (oE prev),Gn (Ax prev))=zsj (xW a b prev l i)
 | [],i,prev,_=>rfl
 |r::l,i,prev,h=>by
  simp only[fD,xW];rw[ace r a b (h r aM) ha hb,au];by_cases z:lI r a b=0
  ·rw[zT z,if_pos z];simp only[ai,zD];obtain⟨i1,i2⟩:=ajF oa ob z;have xB:=agT prev r i1 i2;rw[FD _ (by simp [zh]),au,FD _ (by simp [zh]),au];unfold Gn;rw[Qf _ _ _ _ (AE _) (AF _) (AE _) (AF _),au];dsimp only;rw[Qe,decide_eq_decide.2 (zy1 (oE prev) r.2.1)];by_cases c1:¬(r.2.1∈oE prev/\rA r.2.1=true)
   ·rw[zT c1] at xB⊢;simp only[ai,zD];rw[Qf _ _ _ _ (AE _) (AF _) (AE _) (AF _),au];dsimp only;rw[Qe,decide_eq_decide.2 (zy1 (Ax prev) r.2.2.1)];by_cases c2:¬(r.2.2.1∈Ax prev/\rA r.2.2.1=true)
    ·rw[zT c2] at xB⊢;rw[xB];simp only[ai,zD,j4];rw[if_neg (by simp),zdk _ _ _ _ (AE _) (AF _) (AE _) (AF _),au,zdk _ _ _ _ (AE _) (AF _) (AE _) (AF _),au];have:=zzq a b ha hb oa ob l (i+1) (prev++ [r]) (λq hq=>h q (aE _ hq));rw[show oE (prev++ [r])=oE prev++ [r.2.1] by simp [oE],show Ax (prev++ [r])=Ax prev++ [r.2.2.1] by simp [Ax]] at this;unfold Gn at this;rw[zzr,zzs,zzr,zzs] at this;exact this
    ·rw[zF c2] at xB⊢;rw[xB];rfl
   ·rw[zF c1] at xB⊢;rw[xB];rfl
  ·rw[zF z,if_neg z];rfl
theorem acf(m:Map)(a b:zf)(ha:a.2.2.1.length<=maxLen)(hb:b.2.2.1.length<=maxLen):Lt bG ([a,b]:List zf) ((ag ([a,b]:List zf)):Int) 0 m a b=some (if(qx a).1=0 then(if(qx b).1=0 then .inr (m,a,b) else .inl (1,1,1,m,a,b)) else .inl (1,1,0,m,a,b)):=by
 obtain⟨k,hk⟩:=Gp;rw[hk];simp only[Lt,Yd];have w0:∀{R:Type} (x:ae R),zd 0 ([a,b]:List zf).length x=x:=λx=>zp (by omega) (by simp);have w1:∀{R:Type} (x:ae R),zd 1 ([a,b]:List zf).length x=x:=λx=>zp (by omega) (by simp);have e1:zW zI (0+1)=1:=rfl;have e2:zW zI (1+1)=2:=rfl;have d0:decide ((0:Int)<(([a,b]:List zf).length:Int))=true:=rfl;have d1:decide ((1:Int)<(([a,b]:List zf).length:Int))=true:=rfl;have d2:decide ((2:Int)<(([a,b]:List zf).length:Int))=false:=rfl;rw[d0,zC,w0,show ah ([a,b]:List zf) (0:Int).toNat ((0:Int),(0:Int),([]:List Spec),())=a from rfl,SR a ha,au];by_cases za:(qx a).1=0
 ·rw[zT za,if_pos za];simp only[ai,zD];rw[e1,d1,zC,w1,show ah ([a,b]:List zf) (1:Int).toNat ((0:Int),(0:Int),([]:List Spec),())=b from rfl,SR b hb,au];by_cases zb:(qx b).1=0
  ·rw[zT zb,if_pos zb];simp only[ai,zD];rw[e2,d2,zD]
  ·rw[zF zb,if_neg zb];rfl
 ·rw[zF za,if_neg za];rfl
abbrev rS:dC:=(0,0,0,bs [],[],())
theorem z7v(m:Map)(a b:zf)(h:mB m)(ha:a.2.2.1.length<=maxLen)(hb:b.2.2.1.length<=maxLen):zM m a b=some (mi m a b):=by
 have h1:=h.xI.len;have h2:=h.len;unfold zM Yc mi;dsimp only;rw[acf m a b ha hb,au];by_cases za:(qx a).1=0
 ·rw[if_pos za,if_pos za];by_cases zb:(qx b).1=0
  ·rw[if_pos zb,if_pos zb];simp only[cj];unfold Ye;by_cases hm:256<m.1.length
   ·rw[zT (by omega),if_pos hm];rfl
   ·rw[zF (by omega),if_neg hm,zD];dsimp only;rw[agf m a b h.xI];unfold wE;cases nJ a b [] m.1 0 with
    |some e=>rfl
    |none=>
     simp only[au,cj];unfold Yf;by_cases hr:256<m.2.1.length
     ·rw[zT (by omega),if_pos hr];rfl
     ·rw[zF (by omega),if_neg hr,zD];dsimp only;have:=jJ rS m.2.1 (by rw[zh];omega) (λi (x:dC) (s:S2×S2) K=>((xm x a b).bind λr3=>(bif(!decide (r3=0)) then some (Sum.inl (r3,(3:Int),i)) else((BP ([x.2.1]:List Int)).bind λr4=>((BP ([x.2.2.1]:List Int)).bind λr5=>((AN s.1 r4).bind λr6=>(bif(!(decide (r6.1=0)&&(decide (r6.2.1=0)&&true))) then some (Sum.inl ((10:Int),(3:Int),i)) else((AN s.2 r5).bind λr7=>(bif(!(decide (r7.1=0)&&(decide (r7.2.1=0)&&true))) then some (Sum.inl ((10:Int),(3:Int),i)) else((BQ s.1 r4).bind λr8=>((BQ s.2 r5).bind λr9=>K (r8,r9)))))))))))) (λ_=>some (Sum.inr ()))
       (λk i s=>TE k m.2.1 (m.2.1.length:Int) i a b s.1 s.2) (λk i s=>rfl) (Gn (oE []),Gn (Ax []))
      have h3:=zzq a b ha hb ((C8 a).1 za) ((C8 b).1 zb) m.2.1 0 [] h.rules;rw[h3] at this;have h4:Gn (oE [])=((0:Int),(0:Int),()):=rfl;have h5:Gn (Ax [])=((0:Int),(0:Int),()):=rfl;rw[h4,h5] at this;rw[this];unfold zsj;cases xW a b [] m.2.1 0<;>rfl
  ·rw[if_neg zb,if_neg zb];rfl
 ·rw[if_neg za,if_neg za];rfl
instance U7:DecidableEq dC:=λx y=>decidable_of_iff ((decide (x.1=y.1)&&(decide (x.2.1=y.2.1)&&(decide (x.2.2.1=y.2.2.1)&&(decide (x.2.2.2.1=y.2.2.2.1)&&decide (x.2.2.2.2.1=y.2.2.2.2.1)))))=true) (by obtain⟨a1,a2,a3,a4,a5,u⟩:=x;obtain⟨b1,b2,b3,b4,b5,v⟩:=y;simp)
instance aaQ:DecidableEq Map:=λx y=>decidable_of_iff ((decide (x.1=y.1)&&decide (x.2.1=y.2.1))=true) (by obtain⟨a1,a2,u⟩:=x;obtain⟨b1,b2,v⟩:=y;simp)
def jv(r:dC):dC:=(r.1,r.2.2.1,r.2.1,r.2.2.2.1,mT r.2.2.2.2.1,())
def mE(m:Map):Map:=(mT m.1,m.2.1.map jv,())
abbrev aaO:Map:=([],[],())
def Ft(r:dC)(a b:zf):Bool:=
 bif decide (r.1=1) then(tz (cV a r.2.1) (cV b r.2.2.1)&&tz (cV b r.2.2.1) (cV a r.2.1)) else bif decide (r.1=4) then decide ((cV a r.2.1).2.2.2.1<=(cV b r.2.2.1).2.2.2.1) else bif decide (r.1=5) then Gi r.2.2.2.2.1 else false
def s9(m:Map)(a b:zf):Bool:=decide ((mi m a b).1=0)&&(Gi m.1&&m.2.1.all λr=>Ft r a b)
structure oV(r:dC)(a b:zf):Prop where
 lo:¬r.1<1
 hi:¬(5:Int)<r.1
 ends:lg r a b=false
 text:p8 r=false
 kind:qR r (cV a r.2.1) (cV b r.2.2.1)=0
theorem zhf{r:dC}{a b:zf}:lI r a b=0↔oV r a b:=by
 constructor
 ·intro h;unfold lI at h;by_cases c1:r.1<1
  ·rw[zT c1] at h;simp at h
  by_cases c2:(5:Int)<r.1
  ·rw[zT c2] at h;simp at h
  rw[zF c1,zF c2] at h;simp only[Bool.or_self,zD] at h;cases he:lg r a b with
  |true=>rw[he] at h;simp at h
  |false=>
   rw[he,zD] at h;cases ht:p8 r with
   |true=>rw[ht] at h;simp at h
   |false=>rw[ht,zD] at h;exact⟨c1,c2,he,ht,h⟩
 ·intro h;unfold lI;rw[zF h.lo,zF h.hi,h.ends,h.text];exact h.kind
theorem oV.Nx{r:dC}{a b:zf}(h:oV r a b)(k:r.1≠3):eK a r.2.1=true:=by have he:=h.ends;unfold lg at he;rw[cR,zF k] at he;simpa using he.1
theorem oV.hasB{r:dC}{a b:zf}(h:oV r a b)(k:r.1≠2):eK b r.2.2.1=true:=by have he:=h.ends;unfold lg at he;rw[cR,zF k] at he;simpa using he.2
theorem Vq{a b:zf}:∀{l:List eY} {seen:List af} {i:Int},nJ a b seen l i=none↔(∀p∈l,vj p a b=true)/\qj seen l i=none
 | [],seen,i=>by simp [nJ,qj]
 |p::r,seen,i=>by
  simp only[nJ,qj,aD,forall_eq_or_imp];cases ht:vj p a b with
  |false=>simp
  |true=>
   rw[if_pos rfl];by_cases hm:p.1∈seen
   ·simp [hm]
   ·rw[if_neg hm,if_neg hm,Vq];simp
def Ht:List dC->List dC->Prop
 |_,[]=>True
 |prev,r::l=>prev.any (λq=>q9 q r)=false/\Ht (prev++ [r]) l
theorem Vj{a b:zf}:∀{l:List dC} {prev:List dC} {i:Int},xW a b prev l i=none↔(∀r∈l,lI r a b=0)/\Ht prev l
 | [],prev,i=>by simp [xW,Ht]
 |r::l,prev,i=>by
  simp only[xW,Ht,aD,forall_eq_or_imp];by_cases z:lI r a b=0
  ·rw[if_pos z];cases hp:prev.any (λq=>q9 q r) with
   |true=>simp
   |false=>rw[if_neg (by simp),Vj];simp [z]
  ·rw[if_neg z];simp [z]
theorem zs9{a b:zf}:∀{l:List eY} {seen:List af} {i:Int} {e:Int×Int},nJ a b seen l i=some e->e.1≠0
 |p::r,seen,i,e,h=>by
  simp only[nJ] at h;split at h
  ·split at h
   ·cases h;simp
   ·exact zs9 h
  ·cases h;simp
theorem zmy{a b:zf}:∀{l:List dC} {prev:List dC} {i:Int} {e:Int×Int},xW a b prev l i=some e->e.1≠0
 |r::l,prev,i,e,h=>by
  simp only[xW] at h;split at h
  ·split at h
   ·cases h;simp
   ·exact zmy h
  ·rename_i hz;cases h;exact hz
structure mU(m:Map)(a b:zf):Prop where
 sa:(qx a).1=0
 sb:(qx b).1=0
 Ox:m.1.length<=256
 typed:∀p∈m.1,vj p a b=true
 dup:qj [] m.1 0=none
 IJ:m.2.1.length<=256
 rules:∀r∈m.2.1,lI r a b=0
 yR:Ht [] m.2.1
theorem SZ{m:Map}{a b:zf}:(mi m a b).1=0↔mU m a b:=by
 constructor
 ·intro h;unfold mi at h;split at h
  ·split at h
   ·rename_i h1 h2;split at h
    ·cases h
    ·rename_i h3;split at h
     ·rename_i e he;exact absurd h (zs9 he)
     ·rename_i hm;split at h
      ·cases h
      ·rename_i h4;split at h
       ·rename_i e he;exact absurd h (zmy he)
       ·rename_i hr;obtain⟨g1,g2⟩:=Vq.1 hm;obtain⟨g3,g4⟩:=Vj.1 hr;exact⟨h1,h2,by omega,g1,g2,by omega,g3,g4⟩
   ·cases h
  ·cases h
 ·intro h;unfold mi;have e1:=Vq.2 ⟨h.typed,h.dup⟩;have e2:xW a b [] m.2.1 0=none:=Vj.2 ⟨h.rules,h.yR⟩;have l1:=h.Ox;have l2:=h.IJ;rw[if_pos h.sa,if_pos h.sb,if_neg (by omega),e1];simp only;rw[if_neg (by omega),e2]
theorem mU.eq{m:Map}{a b:zf}(h:mU m a b):mi m a b=(0,0,0):=by unfold mi;have e1:=Vq.2 ⟨h.typed,h.dup⟩;have e2:xW a b [] m.2.1 0=none:=Vj.2 ⟨h.rules,h.yR⟩;have l1:=h.Ox;have l2:=h.IJ;rw[if_pos h.sa,if_pos h.sb,if_neg (by omega),e1];simp only;rw[if_neg (by omega),e2]
theorem nF.turn{l:List eY}(h:nF l):nF (mT l):=⟨by rw[zhs];exact h.len,λp hp=>by unfold mT at hp;obtain⟨q,hq,rfl⟩:=bm.1 hp;exact⟨(h.sz q hq).2,(h.sz q hq).1⟩⟩
theorem mB.turn{m:Map}(h:mB m):mB (mE m):=⟨h.xI.turn,by show(m.2.1.map jv).length<=_;rw[cf];exact h.len,λr hr=>by obtain⟨q,hq,rfl⟩:=bm.1 (show r∈m.2.1.map jv from hr);exact⟨(h.rules q hq).text,(h.rules q hq).n9.turn⟩⟩
theorem adV(p:eY)(a b:zf)(h:vj p a b=true):vj (p.2.1,p.1,()) b a=true:=by unfold vj at h⊢;simp only[ap,beq_iff_eq] at h⊢;exact⟨h.2.1,h.1,h.2.2.symm⟩
theorem adU(x y:dC):q9 (jv x) (jv y)=q9 x y:=by unfold q9 jv;exact Bool.or_comm _ _
theorem zh8:∀(l prev:List dC),Ht prev l->Ht (prev.map jv) (l.map jv)
 | [],_,_=>trivial
 |r::l,prev,⟨h1,h2⟩=>by
  refine⟨?_,?_⟩
  ·rw[List.any_map];rw[<-h1];congr 1
   funext q
   exact adU q r
  ·have:=zh8 l (prev++ [r]) h2;rw[cg] at this;exact this
theorem zsm{l:List eY}(h:(zA l).1=0):l.length<=256/\qj [] l 0=none:=by
 unfold zA at h;split at h
 ·cases h
 ·rename_i h1;split at h
  ·cases h
  ·rename_i h2;exact⟨by omega,h2⟩
theorem zwz{l:List eY}:Gi l=true↔(zA l).1=0/\(zA (mT l)).1=0:=by unfold Gi;exact decide_eq_true_iff
theorem zsu{x y:Spec}:∀{l:List eY},nu l x y=0↔∀p∈l,eS x p.1=0/\eS y p.2.1=0
 | []=>by simp [nu]
 |p::r=>by
  simp only[nu,aD,forall_eq_or_imp];by_cases h1:eS x p.1=0
  ·rw[zT h1];simp only[ai,zD];by_cases h2:eS y p.2.1=0
   ·rw[zT h2];simp only[ai,zD];rw[zsu];simp [h1,h2]
   ·rw[zF h2];simp [h1,h2]
  ·rw[zF h1];simp [h1]
theorem agD{r:dC}{a b:zf}(h:oV r a b)(hu:Ft r a b=true):oV (jv r) b a:=by
 have hk:r.1=1\/r.1=4\/r.1=5:=by
  unfold Ft at hu;by_cases k1:r.1=1
  ·exact .inl k1
  by_cases k4:r.1=4
  ·exact .inr (.inl k4)
  by_cases k5:r.1=5
  ·exact .inr (.inr k5)
  rw[zF k1,zF k4,zF k5] at hu;cases hu
 have e1:(jv r).1=r.1:=rfl;have e2:(jv r).2.1=r.2.2.1:=rfl;have e3:(jv r).2.2.1=r.2.1:=rfl;have e4:(jv r).2.2.2.1=r.2.2.2.1:=rfl;have e5:(jv r).2.2.2.2.1=mT r.2.2.2.2.1:=rfl;refine⟨h.lo,h.hi,?_,?_,?_⟩
 ·unfold lg;rw[e1,e2,e3,zF (by omega:¬r.1=3),zF (by omega:¬r.1=2),h.Nx (by omega),h.hasB (by omega)];rfl
 ·have ht:=h.text;unfold p8 at ht⊢;rw[e1,e4,e5,zhs];exact ht
 ·have xC:=h.kind;unfold qR at xC⊢;unfold Ft at hu;rw[e1,e2,e3,e4,e5];rcases hk with k|k|k
  ·rw[zT k,zC] at hu⊢;rw[ap] at hu;rw[hu.1];rfl
  ·rw[zF (by omega:¬r.1=1),zF (by omega:¬r.1=3),zT k] at xC⊢;simp only[zD,zC] at xC⊢;rw[Bool.and_comm];exact xC
  ·rw[zF (by omega:¬r.1=1),zF (by omega:¬r.1=3),zF (by omega:¬r.1=4),zT k] at xC⊢;rw[zF (by omega:¬r.1=1),zF (by omega:¬r.1=4),zT k] at hu;simp only[zD,zC] at xC hu⊢;have hb:=zwz.1 hu;unfold LP at xC⊢;rw[zhs,hb.2];rw[hb.1] at xC;cases hz:decide ((r.2.2.2.2.1.length:Int)=0) with
   |true=>rw[hz] at xC;simp at xC
   |false=>rw[hz] at xC;simp only[decide_true,ai,Bool.or_self,zD] at xC⊢;rw[zsu] at xC⊢;intro p hp;unfold mT at hp;obtain⟨q,hq,rfl⟩:=bm.1 hp;exact⟨(xC q hq).2,(xC q hq).1⟩
theorem PJ{m:Map}{a b:zf}(h:s9 m a b=true):mU (mE m) b a:=by
 unfold s9 at h;simp only[ap,decide_eq_true_eq,aR] at h;obtain⟨h1,h2,h3⟩:=h;have h0:=SZ.1 h1;have hb:=zwz.1 h2;obtain⟨l1,d1⟩:=zsm hb.2;refine⟨h0.sb,h0.sa,l1,λp hp=> ?_,d1,by show(m.2.1.map jv).length<=_;rw[cf];exact h0.IJ,λr hr=> ?_,?_⟩
 ·obtain⟨q,hq,rfl⟩:=bm.1 (show p∈m.1.map _ from hp);exact adV q a b (h0.typed q hq)
 ·obtain⟨q,hq,rfl⟩:=bm.1 (show r∈m.2.1.map jv from hr);exact zhf.2 (agD (zhf.1 (h0.rules q hq)) (h3 q hq))
 ·exact zh8 m.2.1 [] h0.yR
end eD

