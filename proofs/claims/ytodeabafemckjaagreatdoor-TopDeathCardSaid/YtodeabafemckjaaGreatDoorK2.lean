/- No condition. -/
import Derived.Test.YtodeabafemckjaaGreatDoorK1
import Derived.OpenShut
import Derived.Deep.Slices
import Derived.Shelf.Strings.Repeat
import Derived.KernelRfl
set_option linter.unusedVariables false
set_option linter.unusedSimpArgs false
set_option maxRecDepth 100000
open Array renaming getElem?_eq_getElem->bf,ext'->lI
open Bool renaming and_eq_true->ar,not_eq_true'->hM
open ByteArray renaming data_append->dS
open Go renaming undef->aT
open Go.Cell renaming okWide->kR
open Go.DataW renaming trod->fm
open Go.IntKind renaming bits->eX,signed->kZ,wrap->l4
open Go.Lib renaming strCells->eb
open Go.Result renaming andThen_ok->al
open Go.RowKit renaming Below->gR
open Go.Sem renaming run_bind->ax,run_pure->aD
open Go.Utf8 renaming decode->dp
open Go.Value renaming okWide->l9
open Go.World renaming cell?->bP
open Int renaming fdiv->aX,tdiv->dj,tmod->eG
open List renaming length->ag,getD->ah,getD_eq_getElem?_getD->aq,getElem?_eq_getElem->au,getElem?_eq_some_iff->aC,replicate->aB,mem_cons_of_mem->aG,mem_cons->aH,drop_eq_getElem_cons->aM,mem_of_getElem?->aN,getElem?_map->aL,getElem?_eq_none->aQ,drop_zero->aO,take->aI,all_eq_true->aY,getElem?_append_right->bh,getElem?_append_left->bG,drop->bk,getElem?_cons_succ->bH,getElem?_cons_zero->bQ,mem_singleton->cJ,any_eq_false->cE,mem_iff_getElem?->cV,not_mem_nil->dR,set->cK,getElem?_replicate->fb,map_congr_left->dL
open Nat renaming beq->ak,eq_of_beq_eq_true->aE,le_refl->bg,ble->bC
open Option renaming map_eq_some_iff->av
open Option.some renaming injEq->az
open Sum renaming elim->aA
open UInt8 renaming toNat_ofNat_of_lt'->jE
namespace Go.Ref
open Go
variable {P:Program} {tq:n4} {E:Env} {X:bZ} {s:State} {a:Act}
def ns(X Y:bZ):Prop:=Y.w=X.w/\∀g j p n,X.ow g= .row (.r j p) n->Y.ow g= .row (.r j p) n
theorem ns.refl(X:bZ):ns X X:=⟨rfl,λ_ _ _ _ h=>h⟩
theorem ns.trans{X Y Z:bZ}(h:ns X Y)(k:ns Y Z):ns X Z:=⟨k.1.trans h.1,λg j p n e=>k.2 g j p n (h.2 g j p n e)⟩
theorem cq.GR{X Y:bZ}(h:ns X Y)(hx:Ext X Y)(hβ:Y.β=X.β){j:Nat}{sv:SV}{v:Value}(hn:sv.fY=false)(hr:cq X (.r j) sv v):cq Y (.r j) sv v:=by
 cases sv with
 |undef=>trivial
 |skip=>exact hr
 |jJ=>exact hr
 |m5=>exact hr
 |over=>exact hr
 |b8 t x own=>
  obtain⟨cs,h1,h2,h3⟩:=hr;refine⟨cs,h1.mono hx,h2,λp hp=> ?_⟩;obtain⟨e,t',xs,v,g0,g1,g2,g3⟩:=h3 p hp;refine⟨e,t',xs,v,g0,g1,g2,?_⟩;rcases g3 with ho|⟨g,cap,cur,k1,k2,k3,k4,k5,k6⟩
  ·exact .inl ho
  ·exact .inr ⟨g,cap,cur,k1,by rw[h.1];exact k2,k3,k4,k5,h.2 _ _ _ _ k6⟩
 |ptr id t p=>obtain⟨r,h1,h2⟩:=hr;exact⟨r,by rw[hβ];exact h1,h2⟩
 |view t x=>obtain⟨ad,cs,h1,h2,h3,h4⟩:=hr;exact⟨ad,cs,h1,h2,h3.mono hx,λi u hi=>hx.cf _ _ (h4 i u hi)⟩
 |cap f t x u y=>exact Aa hx.cf hr
 |eU id a b k=>cases hn
theorem aep{X:bZ}{i j:Nat}{q:List Nat->Place}:ns X (X.turn i j q):=⟨rfl,λg j p n h=>by simp only[bZ.turn,h]⟩
theorem z182{X:bZ}{id:Nat}{p:List Nat}{q:List Nat->Place}:ns X (X.ph id p q):=⟨rfl,λg j p n h=>by simp only[bZ.ph,h]⟩
theorem zzi(hE:bN P E):∀(rs:List ResultVar) (X:bZ) (s s':State) (l:List SV) (j0:Nat),Rel tq X s a->pg E s rs=some (l,s')->
 ∃Y vs,Y.w=X.w/\Ext X Y/\ns X Y/\Y.β=X.β/\Rel tq Y s' a/\vs.length=l.length/\(∀(j:Nat) sv v,l[j]? =some sv->vs[j]? =some v->cq Y (.r (j0+j)) sv v)/\l.any SV.fY=false/\
  (rs.mapM (m:=Sem) λx=>match x with
    | .tmp t=>pure (a.tmps.getD t aT)
    | .cell ad t=>do loadVar t (<-asAddr (a.tmps.getD ad aT))).run P X.w= .ok vs X.w
 | [],X,s,s',l,j0,hr,h=>by simp only[pg,az,Prod.mk.injEq] at h;obtain⟨rfl,rfl⟩:=h;exact⟨X,[],rfl,Ext.refl X,ns.refl X,rfl,hr,rfl,(λj sv v hl=>by simp at hl),rfl,by simp⟩
 | .tmp t::r,X,s,s',l,j0,hr,h=>by
   simp only[pg] at h;split at h
   case isTrue=>cases h
   rename_i mJ;have mJ:(one (s.slot t)).fY=false:=by simpa using mJ
   split at h
   case h_2=>cases h
   rename_i l1 s1 h1;cases h;have key:∃Y,Y.w=X.w/\Ext X Y/\ns X Y/\Y.β=X.β/\Rel tq Y (s.close [(t,0)]) a/\cq Y (.r j0) (one (s.slot t)) (a.tmps.getD t aT):=by
    have jy:=hr.cM (.tmp t);cases hs:one (s.slot t) with
    |b8 ty x w=>have jy:cq X (.c t 0) (one (s.slot t)) (a.tmps.getD t aT):=jy;rw[hs] at jy;obtain⟨cs,g1,g2,g3⟩:=jy;have hT:mM (s.close [(t,0)]) X (X.turn t 0 (.r j0)):=PT λp=>kW.close;exact⟨X.turn t 0 (.r j0),rfl,hT.ext,aep,rfl,(hr.close _).mod hT.mod,cs,g1.bz (λ_ _=>hT.cf.1),g2,g3.uq⟩
    |eU id c b n=>rw[hs] at mJ;cases mJ
    |_=>refine⟨X,rfl,Ext.refl X,ns.refl X,rfl,hr.close _,?_⟩;have jy:cq X (.c t 0) (one (s.slot t)) (a.tmps.getD t aT):=jy;rw[hs] at jy;exact jy
   obtain⟨Y,hw,dF,gv,hβ,eQ,cY⟩:=key;obtain⟨Z,vs,CN,ia,B4,hβ2,lh,hlen,vj,BS,dD⟩:=zzi hE r Y _ s' l1 (j0+1) eQ h1;refine⟨Z,a.tmps.getD t aT::vs,CN.trans hw,dF.trans ia,gv.trans B4,hβ2.trans hβ,lh,by simp [hlen],λj sv v hl hv=> ?_,?_,?_⟩
   ·cases j with
    |zero=>simp only[bQ,az] at hl hv;subst hl hv;exact cY.GR B4 ia hβ2 mJ
    |succ j=>simp only[bH] at hl hv;rw[show j0+(j+1)=j0+1+j by omega];exact vj j sv v hl hv
   ·simp only[List.any_cons,mJ,BS,Bool.or_self]
   ·rw[hw] at dD;simp only[List.mapM_cons,ax,aD,al,dD]
 | .cell p T::r,X,s,s',l,j0,hr,h=>by
   simp only[pg] at h;split at h
   case h_2=>cases h
   rename_i id tt t pS hT;split at h
   case h_2=>cases h
   rename_i B hB;split at h
   case isFalse=>cases h
   rename_i heq;rw[ar] at heq;have mQ:tt.fA=false:=by simpa using heq.2
   have hte:=Ty.cS heq.1;have hnB:B.t.fA=false:=hte▸hE.qn hT;split at h
   case h_2=>cases h
   rename_i l1 s1 h1;cases h;have hb:=yt hB;obtain⟨r0,hβ,BF⟩:=hr.boxes id B hb;obtain⟨cs,T',cH,cY,how,gu⟩:=BF.cells hnB;have mT:=hr.slot p;rw[pS] at mT;obtain⟨r1,hβ1,hvp⟩:cq X (.c p 0) (.ptr id tt []) (a.tmps.getD p aT):=mT;obtain⟨hv,_⟩:=(yq mQ).1 hvp;rw[hβ] at hβ1;cases hβ1;have m9:Rel tq X (s.cD (some (id,{B with own:=[]}))) a:=hr.uo hb hβ ⟨how,me.of hnB cH cY uB⟩ (.inl (T9 hnB));have KC:∀q,¬kW (s.cD (some (id,{B with own:=[]}))) (.b id ([]++q)):=by rintro q ⟨B2,kQ,hp⟩;rw[VG hb] at kQ;cases kQ;cases hp
   have uw:=zuk (X:=X) (q:= .r j0) KC;have NV:cq (X.ph id [] (.r j0)) (.r j0) (.b8 B.t B.x B.own) (mH B.t cs.toList):=by refine⟨cs.toList,cY.bz (λ_ _=>uw.cf.1),rfl,λq hq=> ?_⟩;obtain⟨e,t',xs,v,g0,g1,g2,g3⟩:=gu q hq;exact⟨e,t',xs,v,g0,g1,g2,eO.ym (p:=[]) g3⟩
   obtain⟨Z,vs,CN,ia,B4,hβ2,lh,hlen,vj,BS,dD⟩:=zzi hE r (X.ph id [] (.r j0)) _ s' l1 (j0+1) (m9.mod uw.mod) h1;refine⟨Z,mH B.t cs.toList::vs,CN,uw.ext.trans ia,z182.trans B4,hβ2,lh,by simp [hlen],λj sv v hl hv=> ?_,?_,?_⟩
   ·cases j with
    |zero=>simp only[bQ,az] at hl hv;subst hl hv;exact NV.GR B4 ia hβ2 rfl
    |succ j=>simp only[bH] at hl hv;rw[show j0+(j+1)=j0+1+j by omega];exact vj j sv v hl hv
   ·simpa [SV.fY] using BS
   ·have hl:=G1 (P:=P) hE (hte▸hT:E.ty T=some B.t) cY (ad:=⟨r0,0,none⟩) (w:=X.w) (λi v hi=>by rw[qc,Nat.zero_add];simp only[bP,cH];simpa using hi)
    have hw3:(X.ph id [] (.r j0)).w=X.w:=rfl;rw[hw3] at dD;have qC:a.tmps.getD p aT= .pointer (some ⟨r0,0,none⟩):=by simpa [Ty.off] using hv
    have ha:(asAddr (.pointer (some ⟨r0,0,none⟩))).run P X.w= .ok ⟨r0,0,none⟩ X.w:=by simp [asAddr]
    simp only[List.mapM_cons,ax,aD,al,dD,qC,ha,hl]
def bZ.zero(X:bZ)(id:Nat):bZ:=
 {X with ow:=λg=>match X.ow g with
  | .box dP=>if dP=id then .box 0 else .box dP
  | .row (.b dP p) n=>if dP=id then .row (.b 0 p) n else .row (.b dP p) n
  |w=>w}
theorem K0{id:Nat}{ad:Addr}{v:Value}(h:X.cf ad v):(X.zero id).cf ad v:=by
 refine⟨h.1,h.2.1,?_⟩;have:=h.2.2;simp only[bZ.zero];cases hx:X.ow ad.block with
 |box i=>rw[hx] at this;exact this.elim
 |row pl n=>
  rw[hx] at this;cases pl with
  |b i p=>simp only;split<;>exact this
  |_=>exact this
 |_=>rw[hx] at this;exact this
theorem akZ{id:Nat}:Ext X (X.zero id) where
 cf:=λ_ _=>K0
 size:=bg _
 os:=rfl
 tape:=rfl
 output:=rfl
 β0:=rfl
 still:=λg _ gv=>by
  refine⟨?_,rfl⟩;simp only[bZ.zero];cases hx:X.ow g with
  |box i=>rw[hx] at gv;exact gv.elim
  |row pl n=>rw[hx] at gv;exact gv.elim
  |_=>rfl
theorem ff.zero{id r:Nat}{B:fc}(h:ff X id r B):ff (X.zero id) 0 r B:=by
 obtain⟨h3,h1⟩:=h;refine⟨by simp [bZ.zero,h3],h1.move (λ_ _=>K0) rfl (λcs h4 p hp=> ?_) λ_ _ g o _ ho hw=>⟨ho,by simp [bZ.zero,hw]⟩⟩;obtain⟨e,t',xs,v,g0,g1,g2,g3⟩:=h4 p hp;refine⟨e,t',xs,v,g0,g1,g2,?_⟩;rcases g3 with ho|⟨g,cap,cur,k1,k2,k3,k4,k5,k6⟩
 ·exact .inl ho
 ·exact .inr ⟨g,cap,cur,k1,k2,k3,k4,k5,by simp [bZ.zero,k6]⟩
theorem cq.zero{id j r0:Nat}{sv:SV}{v:Value}(hp:∀dP t p,sv= .ptr dP t p->X.β dP=some r0)(hn:sv.fY=false)(h:cq X (.r j) sv v):cq {X.zero id with β:=λ_=>some r0} (.r j) (sv.oK 0) v:=by
 cases sv with
 |undef=>trivial
 |skip=>exact h
 |jJ=>exact h
 |m5=>exact h
 |over=>exact h
 |b8 t x own=>
  obtain⟨cs,h1,h2,h3⟩:=h;refine⟨cs,eC.bz (Y:={X.zero id with β:=λ_=>some r0}) (λad v hs=>(K0 hs:(X.zero id).cf ad v)) h1,h2,λp hp=> ?_⟩;obtain⟨e,t',xs,v,g0,g1,g2,g3⟩:=h3 p hp;refine⟨e,t',xs,v,g0,g1,g2,?_⟩;rcases g3 with ho|⟨g,cap,cur,k1,k2,k3,k4,k5,k6⟩
  ·exact .inl ho
  ·exact .inr ⟨g,cap,cur,k1,k2,k3,k4,k5,by simp [bZ.zero,k6]⟩
 |ptr dP t p=>obtain⟨r,h1,h2⟩:=h;have:=hp dP t p rfl;rw[h1] at this;cases this;exact⟨r0,rfl,h2⟩
 |view t x=>obtain⟨ad,cs,h1,h2,h3,h4⟩:=h;exact⟨ad,cs,h1,h2,eC.bz (Y:={X.zero id with β:=λ_=>some r0}) (λad v hs=>(K0 hs:(X.zero id).cf ad v)) h3,λi u hi=>(K0 (h4 i u hi):(X.zero id).cf _ _)⟩
 |cap f t x u y=>exact Aa (Y:={X.zero id with β:=λ_=>some r0}) (λad v hs=>(K0 hs:(X.zero id).cf ad v)) h
 |eU dP a b k=>cases hn
theorem cq.anyβ{j r0:Nat}{sv:SV}{v:Value}(hp:∀dP t p,sv≠ .ptr dP t p)(hn:sv.fY=false)(h:cq X (.r j) sv v):cq {X with β:=λ_=>some r0} (.r j) sv v:=by
 cases sv with
 |undef=>trivial
 |skip=>exact h
 |jJ=>exact h
 |m5=>exact h
 |over=>exact h
 |b8 t x own=>obtain⟨cs,h1,h2,h3⟩:=h;exact⟨cs,eC.bz (X:=X) (Y:={X with β:=λ_=>some r0}) (λad v (hs:X.cf ad v)=>(hs:({X with β:=λ_=>some r0}:bZ).cf ad v)) h1,h2,h3⟩
 |ptr dP t p=>exact absurd rfl (hp dP t p)
 |view t x=>obtain⟨ad,cs,h1,h2,h3,h4⟩:=h;exact⟨ad,cs,h1,h2,eC.bz (X:=X) (Y:={X with β:=λ_=>some r0}) (λad v (hs:X.cf ad v)=>(hs:({X with β:=λ_=>some r0}:bZ).cf ad v)) h3,h4⟩
 |cap f t x u y=>exact Aa (X:=X) (Y:={X with β:=λ_=>some r0}) (λad v (hs:X.cf ad v)=>(hs:({X with β:=λ_=>some r0}:bZ).cf ad v)) h
 |eU dP a b k=>cases hn
theorem Wg:∀{l:List SV} {id:Nat} {t:Ty} {p:List Nat},SV.ptr id t p∈l->id∈Hq l
 |v::r,id,t,p,h=>by
  rcases aH.1 h with e|h
  ·subst e;simp [Hq]
  ·have:=Wg h;cases v<;>simp [Hq,this]
theorem zzh{l:List SV}{vs:List Value}(hlen:vs.length=l.length)(h:∀(j:Nat) sv v,l[j]? =some sv->vs[j]? =some v->cq X (.r j) sv v):kj X .r l (if h:vs.toArray.size=1 then vs.toArray[0] else .tuple vs.toArray):=by
 match l,vs,hlen with
 | [sv],[v],_=>exact h 0 sv v rfl rfl
 | [],[],_=>exact⟨#[],rfl,rfl,λj s u hs=>by simp at hs⟩
 |x::y::r,u::v::w,hlen=>refine⟨(u::v::w).toArray,by simp,by simpa using hlen,λj s z hs hz=>h j s z hs (by simpa using hz)⟩
theorem acz{Z:bZ}{s':State}{b:ae fc}{l' r:List SV}{b':ae fc}{vs:List Value}(hX:Ext X Z)(lh:Rel tq Z s' a)(hlen:vs.length=l'.length)(qj:∀(j:Nat) sv v,l'[j]? =some sv->vs[j]? =some v->cq Z (.r j) sv v)
 (mJ:l'.any SV.fY=false) (mG:Lz s' b l' (λr b=>some (r,b))=some (r,b')):∃Y',Y'.w=Z.w/\Ext X Y'/\E8 X Y' b r b' (if h:vs.toArray.size=1 then vs.toArray[0] else .tuple vs.toArray):=by
 unfold Lz at mG;cases b with
 |some B=>
  cases hp:Hq l' with
  |cons _ _=>rw[hp] at mG;cases mG
  |nil=>
   rw[hp] at mG;have vO:∀id t p,SV.ptr id t p∉l':=λid t p hm=>by have:=Wg hm;rw[hp] at this;cases this
   cases mW:s'.box 0 with
   |none=>simp only[mW] at mG;cases mG
   |some B'=>simp only[mW] at mG;cases mG;obtain⟨r0,h3,h4⟩:=lh.boxes 0 B' (yt mW);refine⟨Z,rfl,hX,r0,zzh hlen λj sv v h1 h2=>(qj j sv v h1 h2).anyβ (λid t p e=>vO id t p (e▸aN h1)) (by simpa using cE.1 mJ sv (aN h1)),λB2 kQ=> ?_,λ_=>vO,mJ⟩;cases kQ;exact⟨h4,λ_=>by rw[<-hX.β0];exact h3⟩
 |none=>
  cases hp:Hq l' with
  |nil=>
   rw[hp] at mG;have vO:∀id t p,SV.ptr id t p∉l':=λid t p hm=>by have:=Wg hm;rw[hp] at this;cases this
   cases mG;exact⟨Z,rfl,hX,0,zzh hlen λj sv v h1 h2=>(qj j sv v h1 h2).anyβ (λid t p e=>vO id t p (e▸aN h1)) (by simpa using cE.1 mJ sv (aN h1)),(λB2 kQ=>by cases kQ),λ_=>vO,mJ⟩
  |cons id rest=>
   rw[hp] at mG;cases rest with
   |cons _ _=>cases mG
   |nil=>
    cases hB:s'.box id with
    |none=>simp only[hB] at mG;cases mG
    |some B=>
     simp only[hB] at mG;cases mG;obtain⟨r0,h3,h4⟩:=lh.boxes id B (yt hB);refine⟨Z.zero id,rfl,hX.trans akZ,r0,?_,λB2 kQ=> ?_,λhh=> ?_,PH mJ⟩
     ·refine zzh (by simpa using hlen) λj sv v h1 h2=> ?_;rw[aL] at h1;obtain⟨s0,na,rfl⟩:=av.1 h1;refine(qj j s0 v na h2).zero (λdP t p e=> ?_) (by simpa using cE.1 mJ s0 (aN na));have:=Wg (e▸aN na);rw[hp] at this;simp only[cJ] at this;subst this;exact h3
     ·cases kQ;exact⟨h4.zero,λhh=>by cases hh⟩
     ·rcases hh with hh|hh<;>cases hh
theorem VY:∀(ts:List Ty) (l:List SV),(df ts l).length=l.length
 | [],l=>by simp [df]
 |t::r,[]=>by simp [df]
 |t::r,v::q=>by cases t<;>cases v<;>simp [df,VY r q]
theorem Px{X:bZ}:∀(ts:List Ty) (l:List SV) (i:Nat) (sv:SV) (v:Value),(df ts l)[i]? =some sv->(∀sv,l[i]? =some sv->∃pl,cq X pl sv v)->∀q,(∃EF,l[i]? =some EF/\(sv=EF\/sv=EF.shut\/EF= .jJ))/\((∀EF,l[i]? =some EF->cq X q EF v)->cq X q sv v)
 | [],l,i,sv,v,h,_,q=>by
   have h:l[i]? =some sv:=by simpa [df] using h
   exact⟨⟨sv,h,.inl rfl⟩,λhh=>hh sv h⟩
 |t::r,[],i,sv,v,h,_,q=>by simp [df] at h
 |t::r,x::y,i,sv,v,h,hx,q=>by
  cases i with
  |zero=>
   have key:(df (t::r) (x::y))[0]? =some sv->(sv=x.shut)\/(x= .jJ/\∃e u,sv= .b8 (.sl e u) ([]:List (El u)) []):=by intro h;cases t<;>cases x<;>simp only[df,bQ,az] at h<;>first|exact .inl h.symm|exact .inr ⟨rfl,_,_,h.symm⟩
   rcases key h with rfl|⟨rfl,e,u,rfl⟩
   ·exact⟨⟨x,rfl,.inr (.inl rfl)⟩,λhh=>(hh x rfl).shut⟩
   ·refine⟨⟨_,rfl,.inr (.inr rfl)⟩,λhh=> ?_⟩;have:=hh _ rfl;exact⟨[.slice none 0 0],⟨none,0,rfl,bg _,λj x hj=>by simp at hj⟩,this,uB⟩
  |succ i=>
   have h':(df r y)[i]? =some sv:=by cases t<;>cases x<;>simpa [df] using h
   have:=Px r y i sv v h' (λsv hs=>hx sv (by simpa using hs)) q;simpa using this
theorem ag8{ts:List Ty}{l:List SV}{id:Nat}{t:Ty}{p:List Nat}(h:SV.ptr id t p∈df ts l):SV.ptr id t p∈l:=by
 induction ts generalizing l with
 |nil=>simpa [df] using h
 |cons u r ih=>
  cases l with
  |nil=>simp [df] at h
  |cons v q=>
   have key:SV.ptr id t p=v.shut\/SV.ptr id t p∈df r q:=by cases u<;>cases v<;>simp [df,SV.shut] at h⊢ <;>first|exact h|exact .inr h|skip
   rcases key with e|hm
   ·rw[Wh e.symm];simp
   ·exact aG _ (ih hm)
theorem ag7{ts:List Ty}{l:List SV}{id j:Nat}{c d:Ty}(h:SV.eU id c d j∈df ts l):SV.eU id c d j∈l:=by
 induction ts generalizing l with
 |nil=>simpa [df] using h
 |cons u r ih=>
  cases l with
  |nil=>simp [df] at h
  |cons v q=>
   have key:SV.eU id c d j=v.shut\/SV.eU id c d j∈df r q:=by cases u<;>cases v<;>simp [df,SV.shut] at h⊢ <;>first|exact h|exact .inr h|skip
   rcases key with e|hm
   ·have:=zpw v;rw[<-e] at this;cases this
   ·exact aG _ (ih hm)
theorem amH(hE:bN P E)(hm:P.follows .mixedOrders=true){C C0:bu}(hC0:C0.Nat)(hf0:∀f,kX P tq C0 f){f:FuncId}{fn:Func}{code:Code}(qb:P.funcs[f]? =some fn)(BR:(fn.name== "runtime.NumGoroutine")=false)(yg:fn.body=some code)
 (hC:∀(l:List SV) (b:ae fc) (r:List SV) (b':ae fc),C (List SV×ae fc) f l b (λr b=>some (r,b))=some (r,b')->∃k,qY E (C0 (List SV×ae fc)) k fn code l b (λr b=>some (r,b))=some (r,b')):kX P tq C f:=by
 intro l b r b' h;refine⟨⟨fn,code,qb,BR,yg⟩,λX args pq=> ?_⟩;obtain⟨k,h⟩:=hC l b r b' h;unfold qY at h;cases hg:(E.sp.isSome&&b.isSome) with
 |true=>rw[hg] at h;cases h
 |false=>
 rw[hg,cond_false] at h;have hF:Fr E X:=λfL=>pq.rows (by
  cases hE2:E.sp with
  |none=>exact absurd hE2 fL
  |some z=>
   cases b with
   |none=>rfl
   |some B=>rw[hE2] at hg;cases hg)
 simp only at h;obtain⟨⟨e,s⟩,h1,h2⟩:=rC (C7 hC0 code _ (λe s=>some (e,s)) (K:=λz=>match z.1 with
  | .exit _=>none
  |_=>match pg E z.2 fn.results.toList with
   |some (l,s')=>Lz s' b (pf E l) (λr b=>some (r,b))
   |none=>none) (λe s=>by cases e<;>rfl) _) h
 refine calls_of_wp qb yg ?_;have lV:=pq.size;refine Jy hE hm hC0 hf0 k code X X _ _ e s hF (Ext.refl X) (?_:Rel tq X _ _) h1 _ λY a' dF eQ=> ?_
 ·have mJ:=VY E.ps l;refine⟨by simp [lV,mJ],by simp [mJ],λi sl v hs hv=> ?_,λid B hB=> ?_,λi sl id t p hs hm=> ?_,rfl,λi sl id c d n hs hm=> ?_,pq.j8⟩
  ·by_cases hi:i<l.length
   ·rw[bG (by simpa [mJ] using hi),aL] at hs;obtain⟨sv,rl,rfl⟩:=av.1 hs;rw[Array.getElem?_append_left (by omega)] at hv;exact(Px E.ps l i sv v rl (λsv h0=>⟨_,pq.rep i sv v h0 hv⟩) (.c i 0)).2 λEF h0=>pq.rep i EF v h0 hv
   ·rw[bh (by simp [mJ];omega),fb] at hs;split at hs
    ·cases hs;trivial
    ·cases hs
  ·cases id with
   |zero=>simp only[bQ,az] at hB;exact pq.box B hB
   |succ id=>simp only[bH,fb] at hB;split at hB<;>cases hB
  ·by_cases hi:i<l.length
   ·rw[bG (by simpa [mJ] using hi),aL] at hs;obtain⟨sv,rl,rfl⟩:=av.1 hs;simp only[cJ] at hm;subst hm;obtain⟨rfl,hb⟩:=pq.ptr id t p (ag8 (aN rl));cases b with
    |none=>cases hb
    |some B=>exact⟨B,rfl⟩
   ·rw[bh (by simp [mJ];omega),fb] at hs;split at hs
    ·cases hs;simp at hm
    ·cases hs
  ·exfalso;by_cases hi:i<l.length
   ·rw[bG (by simpa [mJ] using hi),aL] at hs;obtain⟨sv,rl,rfl⟩:=av.1 hs;simp only[cJ] at hm;subst hm;exact zu6 pq.wP (ag7 (aN rl))
   ·rw[bh (by simp [mJ];omega),fb] at hs;split at hs
    ·cases hs;simp at hm
    ·cases hs
 ·
  have aaz:∃l s',pg E s fn.results.toList=some (l,s')/\Lz s' b (pf E l) (λr b=>some (r,b))=some (r,b')/\(e= .normal\/e= .ret):=by
   cases e with
   |exit id=>cases h2
   |normal=>
    simp only at h2;split at h2
    ·exact⟨_,_,by assumption,h2,.inl rfl⟩
    ·cases h2
   |ret=>
    simp only at h2;split at h2
    ·exact⟨_,_,by assumption,h2,.inr rfl⟩
    ·cases h2
  obtain⟨l',s',m9,mG,he⟩:=aaz;obtain⟨Z,vs,hw,ia,gv,hβ,lh,hlen,vj,aas,dD⟩:=zzi hE fn.results.toList Y s s' l' 0 eQ m9;have Gt:(results fn a'.tmps).run P Y.w= .ok (if h:vs.toArray.size=1 then vs.toArray[0] else .tuple vs.toArray) Y.w:=by unfold results;simp only[Array.mapM_eq_mapM_toList,ax,Sem.run_map,aD,al];exact congrArg (λr:Result (List Value)=>(r.andThen λa w'=>Result.ok a.toArray w').andThen λa w'=>Result.ok (if h:a.size=1 then a[0] else Value.tuple a) w') dD
  have hX:Ext X Z:=dF.trans ia;have qj:∀(j:Nat) sv v,l'[j]? =some sv->vs[j]? =some v->cq Z (.r j) sv v:=λj sv v h1 h2=>by
   have:=vj j sv v h1 h2
   rwa [Nat.zero_add] at this
  have NG:vs.length=(pf E l').length:=by unfold pf;cases E.ro<;>simpa using hlen
  have H6:∀(j:Nat) sv v,(pf E l')[j]? =some sv->vs[j]? =some v->cq Z (.r j) sv v:=λj sv v h1 h2=>by
   unfold pf at h1;cases hro:E.ro with
   |false=>rw[hro] at h1;exact qj j sv v h1 h2
   |true=>rw[hro,cond_true,aL] at h1;obtain⟨s0,na,rfl⟩:=av.1 h1;exact cq.nT (qj j s0 v na h2)
  have BS:(pf E l').any SV.fY=false:=by
   unfold pf;cases E.ro with
   |false=>exact aas
   |true=>exact zi2 l'
  have fin:=acz (b:=b) hX lh NG H6 BS mG;obtain⟨Y',U9,hX',hL⟩:=fin;have U9:=U9.trans hw;rcases he with rfl|rfl
  ·exact⟨eQ.defers,_,Gt,Y',U9,hX',hL⟩
  ·exact⟨eQ.defers,_,Gt,Y',U9,hX',hL⟩
end Go.Ref

namespace Go.Ref
open Go
variable {P:Program} {E:Env}
def Wf:(t:Ty)->El t->Prop
 | .bool,_=>True
 | .int k,n=>(Lit.int k n).wf=true
 | .str,s=>s.size<=maxLen
 | .sl _ t,xs=>ag xs<=maxLen/\∀x∈(xs:List (El t)),Wf t x
 | .arr n t,xs=>ag xs=n/\∀x∈(xs:List (El t)),Wf t x
 | .unit,_=>True
 | .pair a b,x=>Wf a x.1/\Wf b x.2
 | .dC _ _ _,_=>False
theorem KT(hE:bN P E){T:TypeId}{t:Ty}(ht:E.ty T=some t):P.cellsOf T=t.cells:=by obtain⟨i,h1,h2,_⟩:=(hE.ty T t ht).info;simp [Program.cellsOf,h1,h2]
def Ty.oL:Ty->Bool
 | .sl _ t=> !(ak t.cells 0)&&t.oL
 | .arr _ t=>t.oL
 | .pair a b=>a.oL&&b.oL
 |_=>true
def AA(w:World)(β:Nat->ae Nat):bZ:=⟨w,λ_=> .all,β⟩
theorem aha{w:World}{β:Nat->ae Nat}{a:Addr}{v:Value}(h:w.cell? a=some v):(AA w β).cf a v:=⟨World.cell?_spot h,h,trivial⟩
theorem zn7{α:Type}{n:Nat}{p:Nat->α->Prop}(h:∀i,i<n->∃x,p i x):∃xs:List α,xs.length=n/\∀(i:Nat) x,xs[i]? =some x->p i x:=by
 induction n with
 |zero=>exact⟨[],rfl,λi x hi=>by simp at hi⟩
 |succ n ih=>
  obtain⟨xs,h1,h2⟩:=ih λi hi=>h i (by omega);obtain⟨y,hy⟩:=h n (by omega);refine⟨xs++ [y],by simp [h1],λi x hi=> ?_⟩;rw[List.getElem?_append] at hi;split at hi
  ·exact h2 i x hi
  ·rename_i bS;have HX:i-xs.length=0:=by have:=(aC.1 hi).1;simp at this;omega
   rw[HX] at hi;simp only[bQ,az] at hi;subst hi;have:i=n:=by omega
   subst this;exact hy
section
variable {H:Type} {enc:TypeId×Value->H} {w:World} {base:Nat} {spare:Nat->Bool} {held:Bool} {β:Nat->ae Nat}
theorem amT(hE:bN P E):∀t:Ty,
 (∀(T:TypeId) (iM:Nat) (cs:List Value) (x:DataW H×List MemPlace),E.ty T=some t->t.oL=true->fm enc P w base spare held iM T cs=some x->∃y:El t,eC (AA w β) t y cs/\Wf t y)/\
 (∀(fl:List Field) (off iM:Nat) (cs:List Value),qO E fl t off->t.oL=true->off+t.cells<=cs.length->(∀f∈fl,∃x,fm enc P w base spare held iM f.type ((cs.drop f.offset).take (P.cellsOf f.type))=some x)->
   ∃y:El t,eC (AA w β) t y ((cs.drop off).take t.cells)/\Wf t y):=by
 intro t;have tD:∀{t:Ty},t.lF=false->t≠ .unit->∀(fl:List Field) (off:Nat),¬qO E fl t off:=by intro t h1 h2 fl off h;cases t<;>cases fl<;>simp_all [qO,Ty.lF]
 induction t with
 |dC k a b _ _=>exact⟨λT iM cs x hT oC h=>absurd (hE.qn hT) (by simp [Ty.fA]),λfl off iM cs hf=>absurd hf (tD rfl (by simp) fl off)⟩
 |bool=>
  refine⟨λT iM cs x hT oC h=> ?_,λfl off iM cs hf=>absurd hf (tD rfl (by simp) fl off)⟩;have hu:=(hE.ty T _ hT).lU;cases iM with
  |zero=>simp [fm] at h
  |succ m=>
   unfold fm at h;rw[hu] at h;split at h<;>try(first|cases h;done|(simp_all;done))
   rename_i b _;exact⟨b,rfl,trivial⟩
 |int k=>
  refine⟨λT iM cs x hT oC h=> ?_,λfl off iM cs hf=>absurd hf (tD rfl (by simp) fl off)⟩;have hu:=(hE.ty T _ hT).lU;cases iM with
  |zero=>simp [fm] at h
  |succ m=>unfold fm at h;rw[hu] at h;split at h<;>simp_all;rename_i k1 k2 n hk;subst hk;exact⟨n,rfl,h.1.2⟩
 |str=>
  refine⟨λT iM cs x hT oC h=> ?_,λfl off iM cs hf=>absurd hf (tD rfl (by simp) fl off)⟩;have hu:=(hE.ty T _ hT).lU;cases iM with
  |zero=>simp [fm] at h
  |succ m=>unfold fm at h;rw[hu] at h;split at h<;>simp_all;rename_i s;exact⟨s,rfl,h.1⟩
 |sl e t ih=>
  refine⟨λT iM cs x hT oC h=> ?_,λfl off iM cs hf=>absurd hf (tD rfl (by simp) fl off)⟩;obtain⟨hu,he⟩:=(hE.ty T _ hT).lU;have hc:=KT hE he;rcases Go.Deep.open_slice hu h with⟨rfl,_⟩|⟨a,len,cap,m,n,D,Pl,rfl,hb,hl,hm,KB,_,n5⟩
  ·exact⟨[],⟨none,0,rfl,bg _,λj x hj=>by simp at hj⟩,by simp [maxLen],λx hx=>by cases hx⟩
  ·have hlm:len<=m:=by rw[KB];split<;>omega
   have hk:0<t.cells/\t.oL=true:=by
    simp only[Ty.oL,ar,hM] at oC;refine⟨?_,oC.2⟩;rcases Nat.eq_zero_or_pos t.cells with h0|h0
    ·rw[h0] at oC;simp at oC
    ·exact h0
   obtain⟨ys,h1,h2⟩:=zn7 (n:=len) (p:=λi (y:El t)=>∃m8,w.cells? base (a.add (i*t.cells)) t.cells=some m8/\eC (AA w β) t y m8/\Wf t y) (λi hi=>by obtain⟨m8,g1,g2⟩:=n5 i (by omega);rw[hc] at g1;obtain⟨y,k1,k2⟩:=ih.1 e n m8 _ he hk.2 g2;exact⟨y,m8,g1,k1,k2⟩)
   refine⟨ys,eC.EE h1 hl (λj y hj=> ?_),by show ys.length<=_;omega,λy hy=> ?_⟩
   ·obtain⟨m8,g1,g2,g3⟩:=h2 j y hj;obtain⟨_,hlen,mB⟩:=World.cells?_some g1;have hj0:=(aC.1 hj).1;obtain⟨c0,e1,_⟩:=h2 0 _ (au (by omega));obtain⟨_,aol,HN⟩:=World.cells?_some e1;have Gv:a.spot=none:=by have:=HN 0 (by omega);rw[au (by omega)] at this;have h3:=World.cell?_spot this;simpa [Addr.add] using h3
    refine⟨a,m8,rfl,Gv,g2,λi v hi=>aha ?_⟩;have hil:=(aC.1 hi).1;have:=mB i (by omega);rw[TZ a Gv,hi] at this;exact this
   ·obtain⟨i,hi⟩:=cV.1 hy;obtain⟨m8,_,_,g3⟩:=h2 i y hi;exact g3
 |arr n t ih=>
  refine⟨λT iM cs x hT oC h=> ?_,λfl off iM cs hf=>absurd hf (tD rfl (by simp) fl off)⟩;obtain⟨e,hu,he,_⟩:=(hE.ty T _ hT).lU;have hc:=KT hE he;have Ns:=KT hE hT;obtain⟨xs,m,rfl,_,hl,GC,n5⟩:=DataW.trod_array hu h;obtain⟨ys,h1,h2⟩:=zn7 (n:=n) (p:=λi (y:El t)=>eC (AA w β) t y ((cs.drop (i*t.cells)).take t.cells)/\Wf t y) (λi hi=>by have g:=n5 i hi;rw[hc,au (by omega)] at g;exact ih.1 e m _ _ he oC g)
  refine⟨ys,⟨h1,by rw[hl,Ns];rfl,λj y hj=>(h2 j y hj).1⟩,h1,λy hy=> ?_⟩;obtain⟨i,hi⟩:=cV.1 hy;exact(h2 i y hi).2
 |unit=>refine⟨λT iM cs x hT oC h=> ?_,λfl off iM cs hf oC hle kG=>⟨(),by simp [Ty.cells,eC],trivial⟩⟩;obtain⟨fs,hu,lD,_⟩:=(hE.ty T _ hT).lU;have Ns:=KT hE hT;obtain⟨xs,m,rfl,_,hl,_⟩:=DataW.trod_struct hu h;rw[Ns] at hl;refine⟨(),?_,trivial⟩;exact List.eq_nil_of_length_eq_zero hl
 |pair ta tb ug uh=>
  have step:∀(fl:List Field) (off iM:Nat) (cs:List Value),qO E fl (.pair ta tb) off->(Ty.pair ta tb).oL=true->off+(Ty.pair ta tb).cells<=cs.length->(∀f∈fl,∃x,fm enc P w base spare held iM f.type ((cs.drop f.offset).take (P.cellsOf f.type))=some x)->
   ∃y:El (.pair ta tb),eC (AA w β) (.pair ta tb) y ((cs.drop off).take (Ty.pair ta tb).cells)/\Wf (.pair ta tb) y:=by
   intro fl off iM cs hf oC hle kG;cases fl with
   |nil=>simp [qO] at hf
   |cons f fl=>obtain⟨f1,f2,f3,f4⟩:=hf;simp only[Ty.oL,ar] at oC;simp only[Ty.cells] at hle;obtain⟨x,hx⟩:=kG f (by simp);rw[KT hE f2,f1] at hx;obtain⟨y1,r1,w1⟩:=ug.1 f.type iM _ x f2 oC.1 hx;obtain⟨y2,r2,w2⟩:=uh.2 fl (off+ta.cells) iM cs f4 oC.2 (by omega) (λg hg=>kG g (aG _ hg));refine⟨(y1,y2),⟨_,_,?_,r1,r2⟩,w1,w2⟩;simp only[Ty.cells];rw[<-List.drop_drop];exact List.take_add
  refine⟨λT iM cs x hT oC h=> ?_,step⟩;obtain⟨fs,hu,lD,_⟩:=(hE.ty T _ hT).lU;have Ns:=KT hE hT;obtain⟨xs,m,rfl,_,hl,GC,n5⟩:=DataW.trod_struct hu h;rw[Ns] at hl;obtain⟨y,r,wf⟩:=step fs.toList 0 m cs lD oC (by omega) (λf hf=>by
   obtain⟨i,hi⟩:=cV.1 hf;have D9:fs[i]? =some f:=by simpa using hi
   have:=n5 i f D9;have bS:=(aC.1 hi).1;rw[au (by simp at bS;omega)] at this;exact⟨_,this⟩)
  refine⟨y,?_,wf⟩;rw[aO,<-hl,List.take_length] at r;exact r
end
end Go.Ref

namespace Go.Ref
open Go
variable {P:Program} {E:Env}
def Jj:Value->Value->Bool
 | .bool a,.bool b=>a==b
 | .int k a,.int j b=>decide (k=j)&&decide (a=b)
 | .string a,.string b=>ak a.size 0&&ak b.size 0
 | .slice none 0 0,.slice none 0 0=>true
 |_,_=>false
theorem znb{a:af}(h:a.size=0):a=⟨#[]⟩:=by
 cases a with
 |mk d=>have:d.size=0:=h;have:=Array.eq_empty_of_size_eq_zero this;rw[this]
theorem ago{a b:Value}(h:Jj a b=true):a=b:=by
 unfold Jj at h;split at h
 ·simp at h;rw[h]
 ·simp at h;rw[h.1,h.2]
 ·simp only[ar] at h;rw[znb (aE h.1),znb (aE h.2)]
 ·rfl
 ·cases h
def Lh:List Value->List Value->Bool
 | [],[]=>true
 |a::r,b::q=>Jj a b&&Lh r q
 |_,_=>false
theorem VA:∀{a b:List Value},Lh a b=true->a=b
 | [],[],_=>rfl
 |a::r,b::q,h=>by simp only[Lh,ar] at h;rw[ago h.1,VA h.2]
def z175(t:Ty)(v:Value):Bool:=
 match v with
 | .agg cs=>t.agg&&Lh cs.toList (zp t)
 |v=> !t.agg&&Lh [v] (zp t)
theorem ahT{t:Ty}{v:Value}(h:z175 t v=true):v=mH t (zp t):=by
 unfold z175 at h;split at h
 ·simp only[ar] at h;rw[rj h.1,<-VA h.2]
 ·simp only[ar,hM] at h;rw[<-VA h.2,T8 h.1]
def zB(E:Env):List Field->Ty->Nat->Bool
 | [],.unit,_=>true
 |f::r,.pair a b,off=>ak f.offset off&&((match E.ty f.type with
  |some t=>t.iL a
  |none=>false)&&(!(f.name== "_")&&zB E r b (off+a.cells)))
 |_,_,_=>false
theorem zpk:∀{fl:List Field} {t:Ty} {off:Nat},zB E fl t off=true->qO E fl t off
 | [],t,off,h=>by cases t<;>simp_all [zB,qO]
 |f::r,t,off,h=>by
  cases t<;>simp only[zB,ar] at h<;>try(cases h;done)
  obtain⟨h1,h2,h3,h4⟩:=h;refine⟨aE h1,?_,?_,zpk h4⟩
  ·cases hf:E.ty f.type with
   |none=>rw[hf] at h2;cases h2
   |some u=>rw[hf] at h2;rw[Ty.cS h2]
  ·simpa using h3
def Cq(E:Env)(T:TypeId)(t:Ty):Bool:=
 match E.ty T with
 |some u=>u.iL t
 |none=>false
theorem zzn{T:TypeId}{t:Ty}(h:Cq E T t=true):E.ty T=some t:=by
 unfold Cq at h;split at h
 ·rename_i u hu;rw[hu,Ty.cS h]
 ·cases h
def Im(P:Program)(E:Env)(T:TypeId)(t:Ty):Bool:=
 match P.underlying T,t with
 |some .bool,.bool=>true
 |some (.int k),.int j=>decide (k=j)
 |some .string,.str=>true
 |some (.slice e),.sl e' u=>ak e e'&&Cq E e u
 |some (.array n e),.arr m u=>ak n m&&(Cq E e u&& !P.eqGuardType P.depth T)
 |some (.struct fs),.unit=>zB E fs.toList .unit 0&&(!P.stoodInHeld T&& !P.eqGuardType P.depth T)
 |some (.struct fs),.pair a b=>zB E fs.toList (.pair a b) 0&&(!P.stoodInHeld T&& !P.eqGuardType P.depth T)
 |_,_=>false
theorem akU{T:TypeId}{t:Ty}(h:Im P E T t=true):Sn P E T t:=by
 unfold Im at h;split at h
 ·assumption
 ·rename_i k j hu;rw[<-of_decide_eq_true h];exact hu
 ·assumption
 ·rename_i e e' u hu;simp only[ar] at h;have:=aE h.1;subst this;exact⟨hu,zzn h.2⟩
 ·rename_i n e m u hu;simp only[ar] at h;have:=aE h.1;subst this;exact⟨e,hu,zzn h.2.1,by simpa using h.2.2⟩
 ·rename_i fs hu;simp only[ar,hM] at h;exact⟨fs,hu,zpk h.1,h.2.1,h.2.2⟩
 ·rename_i fs a b hu;simp only[ar,hM] at h;exact⟨fs,hu,zpk h.1,h.2.1,h.2.2⟩
 ·cases h
def GF(P:Program)(E:Env)(T:TypeId)(t:Ty):Bool:=
 match P.info? T with
 |some i=>ak i.size t.cells&&(ak i.bytes (E.bytes T)&&match i.zero with
  |some v=>z175 t v
  |none=>false)
 |none=>false
def HH(P:Program)(E:Env)(T:TypeId):Bool:=
 match E.ty T with
 |some t=>GF P E T t&&Im P E T t
 |none=>true
theorem aj6{T:TypeId}{t:Ty}(h:HH P E T=true)(ht:E.ty T=some t):tV P E T t:=by
 unfold HH at h;rw[ht] at h;simp only[ar] at h;refine⟨?_,akU h.2⟩;have h1:=h.1;unfold GF at h1;split at h1
 ·rename_i i hi;simp only[ar] at h1;obtain⟨g1,g2,g3⟩:=h1;split at g3
  ·rename_i v hv;exact⟨i,hi,aE g1,aE g2,by rw[hv,ahT g3]⟩
  ·cases g3
 ·cases h1
def Ve(P:Program)(T:TypeId):Bool:=
 match P.underlying T,P.info? T with
 |some (.pointer _),some i=>ak i.size 1
 |_,_=>false
structure xK where
 KK:List (ae Ty)
 bts:List Nat
 GM:List Bool
 Vd:List (TypeId×TypeId×TypeId):=[]
def Et:List (TypeId×TypeId×TypeId)->TypeId->ae (TypeId×TypeId)
 | [],_=>none
 |q::r,T=>bif ak q.1 T then some q.2 else Et r T
def mpB(P:Program)(q:TypeId×TypeId×TypeId):Bool:=
 match P.underlying q.1 with
 |some (.map k e)=>ak k q.2.1&&ak e q.2.2
 |_=>false
theorem RP{P:Program}:∀{l:List (TypeId×TypeId×TypeId)},l.all (mpB P)=true->∀{T k e:TypeId},Et l T=some (k,e)->P.underlying T=some (.map k e)
 |q::r,hl,T,k,e,h=>by
  simp only[List.all_cons,ar] at hl;unfold Et at h;cases hq:ak q.1 T with
  |false=>rw[hq] at h;exact RP hl.2 h
  |true=>
   rw[hq] at h;have:=aE hq;subst this;have h1:=hl.1;unfold mpB at h1;split at h1
   ·rename_i k' e' hu;simp only[ar] at h1;have a1:=aE h1.1;have a2:=aE h1.2;rw[hu,a1,a2];have h:some q.2=some (k,e):=h;injection h with h
    rw[h]
   ·cases h1
def xK.env(t:xK)(lH qD:Nat->List Nat)(outs:List Nat)(ps:List Ty):Env:=⟨λT=>t.KK.getD T none,λT=>t.bts.getD T 0,λT=>t.GM.getD T false,lH,qD,outs,ps,Et t.Vd,λ_=>none,λ_=>none,λ_=>[],[],false,[],λ_=>[],λ_=>none,λ_=>none,λ_=>false,none,none⟩
def xK.BB(t:xK):Env:=t.env (λ_=>[]) (λ_=>[]) [] []
def xK.ok(P:Program)(t:xK):Bool:=(List.range t.KK.length).all (HH P t.BB)&&((List.range t.GM.length).all (λT=> !t.GM.getD T false||Ve P T)&&t.Vd.all (mpB P))
theorem Aw{E':Env}(h1:E.ty=E'.ty)(h2:E.bytes=E'.bytes){T:TypeId}{t:Ty}(h:tV P E T t):tV P E' T t:=by
 have lD:∀(fl:List Field) (t:Ty) (off:Nat),qO E fl t off->qO E' fl t off:=by
  intro fl
  induction fl with
  |nil=>intro t off h;cases t<;>simp_all [qO]
  |cons f r ih=>
   intro t off h;cases t<;>simp only[qO] at h⊢ <;>try exact h
   exact⟨h.1,by rw[<-h1];exact h.2.1,h.2.2.1,ih _ _ h.2.2.2⟩
 refine⟨by rw[<-h2];exact h.info,?_⟩;have hu:=h.lU;cases t with
 |bool=>exact hu
 |int k=>exact hu
 |str=>exact hu
 |sl e u=>exact⟨hu.1,by rw[<-h1];exact hu.2⟩
 |arr n u=>obtain⟨e,g1,g2⟩:=hu;exact⟨e,g1,by rw[<-h1];exact g2⟩
 |unit=>obtain⟨fs,g1,g2,g3⟩:=hu;exact⟨fs,g1,lD _ _ _ g2,g3⟩
 |pair a b=>obtain⟨fs,g1,g2,g3⟩:=hu;exact⟨fs,g1,lD _ _ _ g2,g3⟩
 |dC k a b=>exact hu.elim
theorem bN.join(h:bN P E)(j:Nat->ae (List Nat)):bN P {E with join:=j}:=
 ⟨λT u hT=>Aw (E:=E) (E':={E with join:=j}) rfl rfl (h.ty T u hT),h.pt,h.p1,h.mp,h.bl,h.gr,h.gz,h.g3,h.ga⟩
theorem bN.fz(h:bN P E)(j:Nat->ae (Nat×TypeId)):bN P {E with fz:=j}:=
 ⟨λT u hT=>Aw (E:=E) (E':={E with fz:=j}) rfl rfl (h.ty T u hT),h.pt,h.p1,h.mp,h.bl,h.gr,h.gz,h.g3,h.ga⟩
theorem bN.dr(h:bN P E)(j:Nat->List Nat):bN P {E with dr:=j}:=
 ⟨λT u hT=>Aw (E:=E) (E':={E with dr:=j}) rfl rfl (h.ty T u hT),h.pt,h.p1,h.mp,h.bl,h.gr,h.gz,h.g3,h.ga⟩
theorem bN.sh(h:bN P E)(j:List Nat):bN P {E with sh:=j}:=
 ⟨λT u hT=>Aw (E:=E) (E':={E with sh:=j}) rfl rfl (h.ty T u hT),h.pt,h.p1,h.mp,h.bl,h.gr,h.gz,h.g3,h.ga⟩
theorem bN.mv(h:bN P E)(j:List Nat):bN P {E with mv:=j}:=
 ⟨λT u hT=>Aw (E:=E) (E':={E with mv:=j}) rfl rfl (h.ty T u hT),h.pt,h.p1,h.mp,h.bl,h.gr,h.gz,h.g3,h.ga⟩
theorem bN.fr(h:bN P E)(j:Nat->List Nat):bN P {E with fr:=j}:=
 ⟨λT u hT=>Aw (E:=E) (E':={E with fr:=j}) rfl rfl (h.ty T u hT),h.pt,h.p1,h.mp,h.bl,h.gr,h.gz,h.g3,h.ga⟩
def blB(P:Program)(T:TypeId):Bool:=
 match P.info? T with
 |some i=>match i.zero with
  |some (.agg a)=>match a.toList with
   | [.pointer none,.slice none 0 0]=>true
   |_=>false
  |_=>false
 |none=>false
theorem bN.qV(h:bN P E)(T e:TypeId)(hT:blB P T=true):bN P {E with bl:=λt=>bif ak t T then some e else none}:=
 ⟨λT' u hT=>Aw (E:=E) (E':={E with bl:=λt=>bif ak t T then some e else none}) rfl rfl (h.ty T' u hT),h.pt,h.p1,h.mp,λT' e' he=>by
   have he:(bif ak T' T then some e else none)=some e':=he;cases hb:ak T' T with
   |false=>rw[hb] at he;cases he
   |true=>
    have:=aE hb;subst this;unfold blB at hT;split at hT
    case h_2=>cases hT
    rename_i i hi;split at hT
    case h_2=>cases hT
    rename_i a ha;split at hT
    case h_2=>cases hT
    rename_i hl;exact⟨i,hi,by rw[ha];congr 1;congr 1;apply lI;rw[hl]⟩,h.gr,h.gz,h.g3,h.ga⟩
def grB(P:Program)(T:TypeId)(a:Ty):Bool:=
 match P.underlying T with
 |some (.struct fs)=>[0,1,2].all λj=>match fs[j]? with
  |some f=>ak f.offset (u6 a [j])&&match P.info? f.type with
   |some i=> !(ak i.size 0)
   |none=>false
  |none=>false
 |_=>false
def gaB(P:Program)(T:TypeId):Bool:=
 match P.underlying T with
 |some (.array 2 e)=>match P.info? e with
  |some i=>ak i.size 1
  |none=>false
 |_=>false
theorem an7{T:TypeId}{a:Ty}(h:grB P T a=true):∃fs,P.underlying T=some (.struct fs)/\∀j,j<=2->∃f i,fs[j]? =some f/\f.offset=u6 a [j]/\P.info? f.type=some i/\i.size≠0:=by
 unfold grB at h;split at h
 case h_2=>cases h
 rename_i fs hu;refine⟨fs,hu,λj hj=> ?_⟩;have:=aY.1 h j (by match j,hj with|0,_=>simp|1,_=>simp|2,_=>simp);split at this
 case h_2=>cases this
 rename_i f hf;rw[ar] at this;obtain⟨h1,h2⟩:=this;split at h2
 case h_2=>cases h2
 rename_i i hi;exact⟨f,i,hf,aE h1,hi,λe=>by rw[e] at h2;simp at h2⟩
theorem an6{T:TypeId}(h:gaB P T=true):∃e i,P.underlying T=some (.array 2 e)/\P.info? e=some i/\i.size=1:=by
 unfold gaB at h;split at h
 case h_2=>cases h
 rename_i e hu;split at h
 case h_2=>cases h
 rename_i i hi;exact⟨e,i,hu,hi,aE h⟩
def gzB(P:Program)(T:TypeId)(a:Ty):Bool:=
 match P.info? T with
 |some i=>match i.zero with
  |some (.agg cs)=>Lh (cs.toList.take a.cells) (zp a)&&(match cs.toList.drop a.cells with
   | [.pointer none,.pointer none,.int .i64 n]=>decide (n=0)
   |_=>false)
  |_=>false
 |none=>false
theorem an8{T:TypeId}{a:Ty}(h:gzB P T a=true):∃i,P.info? T=some i/\i.zero=some (.agg (zp a++ [Value.pointer none,Value.pointer none,Value.int .i64 0]).toArray):=by
 unfold gzB at h;split at h
 case h_2=>cases h
 rename_i i hi;split at h
 case h_2=>cases h
 rename_i cs mZ;rw[ar] at h;obtain⟨h1,h2⟩:=h;split at h2
 case h_2=>cases h2
 rename_i n hd;have:=of_decide_eq_true h2;subst this;refine⟨i,hi,?_⟩;rw[mZ,<-VA h1,<-hd,List.take_append_drop]
def g3B(P:Program)(E:Env)(T:TypeId)(a:Ty):Bool:=
 match P.underlying T with
 |some (.struct fs)=>(match fs.toList with
  |f::_=>ak f.offset 0&&Cq E f.type a
  | []=>false)&&fs.toList.all λf=>(P.info? f.type).isSome
 |_=>false
theorem an5{T:TypeId}{a:Ty}(h:g3B P E T a=true):∃fs f,P.underlying T=some (.struct fs)/\fs[0]? =some f/\f.offset=0/\E.ty f.type=some a/\∀f∈fs.toList,∃i,P.info? f.type=some i:=by
 unfold g3B at h;split at h
 case h_2=>cases h
 rename_i fs hu;rw[ar] at h;obtain⟨h1,h2⟩:=h;split at h1
 case h_2=>cases h1
 rename_i f r hl;rw[ar] at h1;refine⟨fs,f,hu,by rw[<-Array.getElem?_toList,hl];rfl,aE h1.1,zzn h1.2,λg hg=> ?_⟩;exact Option.isSome_iff_exists.1 (aY.1 h2 g hg)
theorem bN.kF(h:bN P E)(T A:TypeId)(a b:Ty)(hT:grB P T a=true)(hZ:gzB P T a=true)(h3:g3B P E T a=true)(hA:gaB P A=true):bN P {E with gr:=λt=>bif ak t T then some (a,b) else none,ga:=λt=>ak t A}:=
 ⟨λT' u CJ=>Aw (E:=E) (E':={E with gr:=λt=>bif ak t T then some (a,b) else none,ga:=λt=>ak t A}) rfl rfl (h.ty T' u CJ),h.pt,h.p1,h.mp,h.bl,λT' a' b' he=>by
   have he:(bif ak T' T then some (a,b) else none)=some (a',b'):=he;cases hb:ak T' T with
   |false=>rw[hb] at he;cases he
   |true=>have:=aE hb;subst this;rw[hb] at he;cases he;exact an7 hT,λT' a' b' he=>by
   have he:(bif ak T' T then some (a,b) else none)=some (a',b'):=he;cases hb:ak T' T with
   |false=>rw[hb] at he;cases he
   |true=>have:=aE hb;subst this;rw[hb] at he;cases he;exact an8 hZ,λT' a' b' he=>by
   have he:(bif ak T' T then some (a,b) else none)=some (a',b'):=he;cases hb:ak T' T with
   |false=>rw[hb] at he;cases he
   |true=>have:=aE hb;subst this;rw[hb] at he;cases he;exact an5 (E:=E) h3,λT' he=>by
   have:=aE (show ak T' A=true from he);subst this;exact an6 hA⟩
theorem bN.sg(h:bN P E)(j:ae (Nat×Nat×Nat)):bN P {E with sg:=j}:=
 ⟨λT u hT=>Aw (E:=E) (E':={E with sg:=j}) rfl rfl (h.ty T u hT),h.pt,h.p1,h.mp,h.bl,h.gr,h.gz,h.g3,h.ga⟩
theorem bN.sp(h:bN P E)(j:ae (Nat×Nat×Nat×Nat)):bN P {E with sp:=j}:=
 ⟨λT u hT=>Aw (E:=E) (E':={E with sp:=j}) rfl rfl (h.ty T u hT),h.pt,h.p1,h.mp,h.bl,h.gr,h.gz,h.g3,h.ga⟩
theorem bN.ro(h:bN P E)(j:Bool):bN P {E with ro:=j}:=
 ⟨λT u hT=>Aw (E:=E) (E':={E with ro:=j}) rfl rfl (h.ty T u hT),h.pt,h.p1,h.mp,h.bl,h.gr,h.gz,h.g3,h.ga⟩
theorem xK.ua{t:xK}(h:t.ok P=true)(lH qD:Nat->List Nat)(outs:List Nat)(ps:List Ty):bN P (t.env lH qD outs ps):=by
 unfold xK.ok at h;simp only[ar] at h;have tv:∀T,t.GM.getD T false=true->Ve P T=true:=λT CJ=>by
  have bS:T<t.GM.length:=by
   rcases Nat.lt_or_ge T t.GM.length with h1|h1
   ·exact h1
   ·rw[aq,aQ h1] at CJ;cases CJ
  have:=aY.1 h.2.1 T (List.mem_range.2 bS);rw[CJ] at this;simpa using this
 refine⟨λT u hT=> ?_,λT hT=> ?_,λT hT=> ?_,λT k e hT=>RP h.2.2 hT,λT e hT=>(by cases hT),λT a b hT=>(by cases hT),λT a b hT=>(by cases hT),λT a b hT=>(by cases hT),λT hT=>by cases hT⟩
 ·refine Aw (E:=t.BB) (E':=t.env lH qD outs ps) rfl rfl (aj6 ?_ hT);refine aY.1 h.1 T (List.mem_range.2 ?_);have CJ:t.KK.getD T none=some u:=hT;rcases Nat.lt_or_ge T t.KK.length with h1|h1
  ·exact h1
  ·rw[aq,aQ h1] at CJ;cases CJ
 ·have:=tv T hT;unfold Ve at this;split at this
  ·rename_i e i he _;exact⟨e,he⟩
  ·cases this
 ·have:=tv T hT;unfold Ve at this;split at this
  ·rename_i e i _ hi;exact⟨i,hi,aE this⟩
  ·cases this
end Go.Ref

namespace Go.Ref
open Go
variable {P:Program} {tq:n4} {E:Env}
abbrev Pure:=(R:Type)->List SV->ae fc->(List SV->ae fc->ae R)->ae R
def Pure.Nat(g:Pure):Prop:=∀(R S:Type) l b (F:List SV->ae fc->ae R) (G:List SV->ae fc->ae S) (K:S->ae R),(∀r b,F r b=(G r b).bind K)->g R l b F=(g S l b G).bind K
def bu.none:bu:=λ_ _ _ _ _=> .none
def bu.add(C:bu)(n:FuncId)(ps:List Ty)(g:Pure):bu:=λR f l b K=>bif ak f n then g R (df ps l) b K else C R f l b K
theorem aky:bu.none.Nat:=λ_ _ _ _ _ _ _ _ _=>rfl
theorem ag6(f:FuncId):kX P tq bu.none f:=λ_ _ _ _ h=>by cases h
theorem YW{C:bu}{n:FuncId}{ps:List Ty}{g:Pure}(hC:C.Nat)(hg:g.Nat):(C.add n ps g).Nat:=λR S f l b F G K h=>by
 unfold bu.add;cases ak f n with
 |false=>exact hC R S f l b F G K h
 |true=>exact hg R S _ b F G K h
theorem ajA(hE:bN P E)(hm:P.follows .mixedOrders=true){C:bu}(hC:C.Nat)(h0:∀f,kX P tq C f){n:FuncId}{ps:List Ty}{g:Pure}{fn:Func}{code:Code}(qb:P.funcs[n]? =some fn)(BR:(fn.name== "runtime.NumGoroutine")=false)(yg:fn.body=some code)
 (h:∀(l:List SV) (b:ae fc) (r:List SV) (b':ae fc),g (List SV×ae fc) (df ps l) b (λr b=>some (r,b))=some (r,b')->∃k,qY E (C (List SV×ae fc)) k fn code l b (λr b=>some (r,b))=some (r,b')):∀f,kX P tq (C.add n ps g) f:=by
 intro f;by_cases e:f=n
 ·subst e;refine amH hE hm hC h0 qb BR yg λl b r b' hc=>h l b r b' ?_;unfold bu.add at hc;have:ak f f=true:=by simp
  rw[this] at hc;exact hc
 ·intro l b r b' hc;unfold bu.add at hc;have:ak f n=false:=by
   cases hh:ak f n with
   |false=>rfl
   |true=>exact absurd (aE hh) e
  rw[this] at hc;exact h0 f l b r b' hc
def sub:List Nat->Code->Code
 | [],c=>c
 |0::p,.seq a _=>sub p a
 |_::p,.seq _ b=>sub p b
 |0::p,.cond _ a _=>sub p a
 |_::p,.cond _ _ b=>sub p b
 |_::p,.block _ b=>sub p b
 |_::p,.loop b=>sub p b
 |_,c=>c
section
variable {R:Type}
def zl(id:Nat)(K:Ex->State->ae R):Ex->State->ae R:=λe s=>match e with
 | .exit j=>bif ak j id then K .normal s else K (.exit j) s
 |e=>K e s
def aaL(E:Env)(C:FuncId->gE R)(k:Nat)(b:Code)(K:Ex->State->ae R):Ex->State->ae R:=λe s=>match e with
 | .normal=>vw E k (wU b) s λs=>ev E C k b s K
 |e=>K e s
def aaK(E:Env)(rs:List ResultVar)(bx:ae fc)(K:List SV->ae fc->ae R):Ex->State->ae R:=λe s=>match e with
 | .exit _=>none
 |_=>match pg E s rs with
  |some (l,s')=>Lz s' bx (pf E l) K
  |none=>none
end
section
variable {R:Type}
def oe(l:List SV)(K:ae R):ae R:=
 match l with
 | []=>K
 |_=>none
def og(t:Ty)(l:List SV)(K:El t->ae R):ae R:=
 match l with
 | [a]=>a.el t K
 |_=>none
def nM(t u:Ty)(l:List SV)(K:El t->El u->ae R):ae R:=
 match l with
 | [a,b]=>a.el t λx=>b.el u λy=>K x y
 |_=>none
def tg(t u v:Ty)(l:List SV)(K:El t->El u->El v->ae R):ae R:=
 match l with
 | [a,b,c]=>a.el t λx=>b.el u λy=>c.el v λz=>K x y z
 |_=>none
def ti(t u v w:Ty)(l:List SV)(K:El t->El u->El v->El w->ae R):ae R:=
 match l with
 | [a,b,c,d]=>a.el t λx=>b.el u λy=>c.el v λz=>d.el w λz'=>K x y z z'
 |_=>none
end
theorem amC{R:Type}{t:Ty}{v:SV}{r:List Ty}{q:List SV}{K:El t->ae R}{z:R}{v':SV}{q':List SV}(hn:df (t::r) (v::q)=v'::q')(h:v'.el t K=some z):∃y,v'= .b8 t y []/\q'=df r q/\K y=some z:=by
 have key:v'=v.shut/\q'=df r q\/(∃e u,t= .sl e u/\v'= .b8 (.sl e u) ([]:List (El u)) []/\q'=df r q):=by cases t<;>cases v<;>simp only[df,List.cons.injEq] at hn<;>first|exact .inl ⟨hn.1.symm,hn.2.symm⟩|exact .inr ⟨_,_,rfl,hn.1.symm,hn.2.symm⟩
 rcases key with⟨rfl,rfl⟩|⟨e,u,rfl,rfl,rfl⟩
 ·cases v with
  |b8 t' x own=>
   simp only[SV.shut,SV.el] at h;split at h
   ·rename_i heq;have:=Ty.cS heq;subst this;exact⟨x,rfl,rfl,h⟩
   ·cases h
  |jJ=>cases t<;>first|(simp [SV.shut,SV.el] at h;done)|(simp [df,SV.shut] at hn;done)
  |_=>simp [SV.shut,SV.el] at h
 ·simp only[SV.el,Ty.iw,dite_true] at h;exact⟨[],rfl,rfl,h⟩
theorem zpq(hE:bN P E){H:Type}{enc:TypeId×Value->H}{w:World}{spare:Nat->Bool}{held:Bool}{β:Nat->ae Nat}{base b:Nat}{T:TypeId}{t:Ty}{v:Value}{d:DataW H}{ps:List MemPlace}(hT:E.ty T=some t)(oC:t.oL=true)
 (hv:l9 P w .any b T v) (hd:DataW.Trod enc P w base spare held T v d ps):∃y:El t,Wf t y/\∀q,cq (AA w β) q (.b8 t y []) v:=by
 obtain⟨iM,hd⟩:=hd;obtain⟨y,r,wf⟩:=(amT (β:=β) hE t).1 T iM _ _ hT oC hd;refine⟨y,wf,λq=>⟨_,r,?_,uB⟩⟩;have hu:=(hE.ty T t hT).lU;have hl:=r.len;cases ht:t.agg with
 |true=>
  rw[rj ht];have:∃cs,v= .agg cs:=by
   unfold l9 at hv;cases t with
   |arr n t=>obtain⟨e,h1,_⟩:=hu;rw[h1] at hv;obtain⟨cs,h,_⟩:=hv;exact⟨cs,h⟩
   |unit=>obtain⟨fs,h1,_⟩:=hu;rw[h1] at hv;obtain⟨cs,h,_⟩:=hv;exact⟨cs,h⟩
   |pair a b=>obtain⟨fs,h1,_⟩:=hu;rw[h1] at hv;obtain⟨cs,h,_⟩:=hv;exact⟨cs,h⟩
   |dC k a b=>exact absurd (hE.qn hT) (by simp [Ty.fA])
   |_=>simp [Ty.agg] at ht
  obtain⟨cs,rfl⟩:=this;rfl
 |false=>
  have aau:∀cs,v≠ .agg cs:=by
   rintro cs rfl;unfold l9 at hv;cases t with
   |bool=>have hu:P.underlying T=some .bool:=hu;rw[hu] at hv;unfold kR at hv;rw[hu] at hv;unfold Cell.ok at hv;rw[hu] at hv;exact hv
   |int k=>have hu:P.underlying T=some (.int k):=hu;rw[hu] at hv;unfold kR at hv;rw[hu] at hv;unfold Cell.ok at hv;rw[hu] at hv;exact hv
   |str=>have hu:P.underlying T=some .string:=hu;rw[hu] at hv;unfold kR at hv;rw[hu] at hv;unfold Cell.ok at hv;rw[hu] at hv;exact hv
   |sl e t=>have hu:P.underlying T=some (.slice e):=hu.1;rw[hu] at hv;unfold kR at hv;rw[hu] at hv;unfold Cell.ok at hv;rw[hu] at hv;exact hv
   |_=>simp [Ty.agg] at ht
  have hc:v.cells.toList=[v]:=by cases v<;>first|rfl|exact absurd rfl (aau _)
  rw[hc,T8 ht]
theorem aen{w:World}{β:Nat->ae Nat}{Y:bZ}(h:Ext (AA w β) Y):∀g,g<w.heap.size->Y.w.heap[g]? =w.heap[g]? :=λg hg=>(h.still g hg trivial).2
end Go.Ref

namespace Go.Ref
open Go
theorem Jr{x:Int}(h1: -9223372036854775808<=x)(h2:x<=9223372036854775807):IntKind.i64.wrap x=x:=by simp [l4,kZ,eX];omega
theorem ahR{R:Type}{j n:Nat}{x:ae R}(h:j<n):zd (j:Int) n x=x:=by unfold zd;rw[decide_eq_true (by omega:(0:Int)<=j),decide_eq_true (by omega:(j:Int)<n)];rfl
variable {P:Program} {tq:n4} {E:Env}
def Ub(X:bZ):List SV->List Value->Prop
 | [],[]=>True
 |s::l,v::vs=>(∀q,cq X q s v)/\(∀id t p,s≠ .ptr id t p)/\Ub X l vs
 |_,_=>False
theorem ztg{X:bZ}:∀{l:List SV} {vs:List Value},Ub X l vs->vs.length=l.length/\∀(i:Nat) s v,l[i]? =some s->vs[i]? =some v->(∀q,cq X q s v)/\∀id t p,s≠ .ptr id t p
 | [],[],_=>⟨rfl,λi s v h=>by simp at h⟩
 |s::l,v::vs,h=>by
  obtain⟨h1,h2,h3⟩:=h;obtain⟨g1,g2⟩:=ztg h3;refine⟨by simp [g1],λi s' v' hs hv=> ?_⟩;cases i with
  |zero=>simp only[bQ,az] at hs hv;subst hs hv;exact⟨h1,h2⟩
  |succ i=>simp only[bH] at hs hv;exact g2 i s' v' hs hv
theorem aj3{X:bZ}{l:List SV}{args:Array Value}(h:Ub X l args.toList)(hX:∀g pl n,X.ow g≠ .row pl n)(hβ:∀id,X.β id=none)(hg:Good tq X):rF tq X l none args:=by
 obtain⟨h1,h2⟩:=ztg h;refine⟨by simpa using h1,λi sv v hs hv=>(h2 i sv v hs (by simpa using hv)).1 _,λid t p hm=> ?_,λB hB=>(by cases hB),λ_=>hX,cE.2 λv hm=> ?_,hg⟩
 ·obtain⟨i,hi⟩:=cV.1 hm;have bS:=(aC.1 hi).1;have ou:i<args.toList.length:=by omega
  exact absurd rfl ((h2 i _ _ hi (au ou)).2 id t p)
 ·obtain⟨i,hi⟩:=cV.1 hm;have bS:=(aC.1 hi).1;have ou:i<args.toList.length:=by omega
  have hv:=(h2 i _ _ hi (au ou)).1 (λ_=> .r 0 []);cases v with
  |eU id c d j=>obtain⟨r,e,_⟩:=hv;rw[hβ id] at e;cases e
  |_=>simp [SV.fY]
theorem ahn{C:bu}{f:FuncId}(ho:kX P tq C f){l:List SV}{args:Array Value}{W:World}{b:Bool}(hc:C (List SV×ae fc) f l none (λr b=>some (r,b))=some ([.b8 .bool b []],none))(pq:Ub (AA W λ_=>none) l args.toList)(hg:Good tq (AA W λ_=>none):=by exact λe he=>(by cases he)):
 Calls P f args W λe w'=>e= .returned (.bool b)/\gR W.heap.size W w':=by
 refine((ho l none _ _ hc).2 (AA W λ_=>none) args (aj3 pq (λg pl n e=>by cases e) (λ_=>rfl) hg)).mono λe w' he=> ?_;cases e with
 |returned v=>obtain⟨Y,rfl,dF,r0,cY,_,_,_⟩:=he;have cY:cq {Y with β:=λ_=>some r0} (.r 0) (.b8 .bool b []) v:=cY;refine⟨by rw[SK cY],dF.os,dF.tape,dF.output,dF.size,λk hk=>aen dF k hk⟩
 |panicked c=>exact he.elim
 |outgrown=>exact he.elim
end Go.Ref

namespace Go.Ref
open Go
variable {P:Program} {E:Env}
def bs(l:List Nat):af:=⟨(l.map UInt8.ofNat).toArray⟩
@[irreducible] def bE:Nat:=18446744073709551616
theorem ad6{R:Type}(f:Unit->ae R):jR bE f=f ():=by
 have:bE=18446744073709551615+1:=by unfold bE;rfl
 rw[this];rfl
section
variable {R S:Type}
def Oe(body:State->(Ex->State->ae R)->ae R)(l lx:List Nat)(k:Nat)(K:Ex->State->ae R):Ex->State->ae R:=λe s=>match e with
 | .normal=>Ad l s λs=>oG body l lx k s K
 |e=>Ad lx s λs=>K e s
def rO(t:Ty)(own:List (List Nat))(l:List SV)(b:ae fc)(K:El t->List SV->ae R):ae R:=
 match l,b with
 | .ptr 0 u []::r,some B=>if h:B.t.iL t=true then if(u.iL t&&B.own==own)=true then K (Ty.cast h B.x) r else none else none
 |_,_=>none
def tf(t pt bt:Ty)(own:List (List Nat))(l:List SV)(b:ae fc)(K:El t->El bt->ae R):ae R:=
 match l,b with
 | [a,.ptr 0 u []],some B=>if h:B.t.iL bt=true then if(u.iL pt&&B.own==own)=true then a.el t λy=>K y (Ty.cast h B.x) else none else none
 |_,_=>none
def Lx(t u v w:Ty)(l:List SV)(K:El t->El u->El v->El w->ae R):ae R:=
 match l with
 | [a,b,.view v' x,.view w' y]=>if h:v'.iL v=true then if h2:w'.iL w=true then a.el t λp=>b.el u λq=>K p q (Ty.cast h x) (Ty.cast h2 y) else none else none
 |_=>none
def oH(b:ae fc)(K:ae R):ae R:=
 match b with
 |none=>K
 |some _=>none
theorem JB{b:ae fc}{F:ae R}{G:ae S}{K:S->ae R}(h:F=G.bind K):oH b F=(oH b G).bind K:=by
 cases b
 ·exact h
 ·rfl
theorem Jx{b:ae fc}{F:ae R}{z:R}(h:oH b F=some z):b=none/\F=some z:=by
 cases b
 ·exact⟨rfl,h⟩
 ·cases h
theorem zh8(c:Bool)(x y:ae S)(F:S->ae R):(bif c then x else y).bind F=bif c then x.bind F else y.bind F:=by cases c<;>rfl
theorem adi(i:Int)(n:Nat)(x:ae S)(F:S->ae R):(zd i n x).bind F=zd i n (x.bind F):=by unfold zd;rw[zh8,zh8];rfl
theorem ag5(F:S->ae R):(none:ae S).bind F=none:=Eq.trans rfl rfl
theorem zc(x:S)(F:S->ae R):(some x).bind F=F x:=Eq.trans rfl rfl
theorem akN{α β:Type}(f:α->ae S)(g:β->ae S)(e:α⊕β)(F:S->ae R):(aA f g e).bind F=aA (λx=>(f x).bind F) (λx=>(g x).bind F) e:=by cases e<;>rfl
theorem agc{α:Type}(x:ae α)(f:α->ae S)(F:S->ae R):(x.bind f).bind F=x.bind λy=>(f y).bind F:=by cases x<;>rfl
theorem zgu{l:List SV}{F:ae R}{G:ae S}{K:S->ae R}(h:F=G.bind K):oe l F=(oe l G).bind K:=by
 unfold oe;split
 ·exact h
 ·rfl
theorem zgv{t:Ty}{l:List SV}{F:El t->ae R}{G:El t->ae S}{K:S->ae R}(h:∀x,F x=(G x).bind K):og t l F=(og t l G).bind K:=by
 unfold og;split
 ·exact zq h
 ·rfl
theorem zgw{t u:Ty}{l:List SV}{F:El t->El u->ae R}{G:El t->El u->ae S}{K:S->ae R}(h:∀x y,F x y=(G x y).bind K):nM t u l F=(nM t u l G).bind K:=by
 unfold nM;split
 ·exact zq λx=>zq λy=>h x y
 ·rfl
theorem af7{t u v:Ty}{l:List SV}{F:El t->El u->El v->ae R}{G:El t->El u->El v->ae S}{K:S->ae R}(h:∀x y z,F x y z=(G x y z).bind K):tg t u v l F=(tg t u v l G).bind K:=by
 unfold tg;split
 ·exact zq λx=>zq λy=>zq λz=>h x y z
 ·rfl
theorem af8{t u v w:Ty}{l:List SV}{F:El t->El u->El v->El w->ae R}{G:El t->El u->El v->El w->ae S}{K:S->ae R}(h:∀x y z a,F x y z a=(G x y z a).bind K):ti t u v w l F=(ti t u v w l G).bind K:=by
 unfold ti;split
 ·exact zq λx=>zq λy=>zq λz=>zq λa=>h x y z a
 ·rfl
theorem Tb{t:Ty}{own:List (List Nat)}{l:List SV}{b:ae fc}{F:El t->List SV->ae R}{G:El t->List SV->ae S}{K:S->ae R}(h:∀x r,F x r=(G x r).bind K):rO t own l b F=(rO t own l b G).bind K:=by
 unfold rO;split
 ·split
  ·split
   ·exact h _ _
   ·rfl
  ·rfl
 ·rfl
theorem af6{t pt bt:Ty}{own:List (List Nat)}{l:List SV}{b:ae fc}{F:El t->El bt->ae R}{G:El t->El bt->ae S}{K:S->ae R}(h:∀x y,F x y=(G x y).bind K):tf t pt bt own l b F=(tf t pt bt own l b G).bind K:=by
 unfold tf;split
 ·split
  ·split
   ·exact zq λy=>h _ _
   ·rfl
  ·rfl
 ·rfl
theorem adA{t u v w:Ty}{l:List SV}{F:El t->El u->El v->El w->ae R}{G:El t->El u->El v->El w->ae S}{K:S->ae R}(h:∀x y z a,F x y z a=(G x y z a).bind K):Lx t u v w l F=(Lx t u v w l G).bind K:=by
 unfold Lx;split
 ·split
  ·split
   ·exact zq λx=>zq λy=>h x y _ _
   ·rfl
  ·rfl
 ·rfl
theorem z24{α:Type}{m:ae α}{F:α->ae R}{G:α->ae S}{K:S->ae R}(h:∀r,F r=(G r).bind K):m.bind F=(m.bind G).bind K:=by
 cases m with
 |none=>rfl
 |some x=>exact h x
theorem Zc{α β:Type}{f:α->ae R}{g:β->ae R}{f':α->ae S}{g':β->ae S}{K:S->ae R}{e:α⊕β}(h1:∀x,f x=(f' x).bind K)(h2:∀x,g x=(g' x).bind K):aA f g e=(aA f' g' e).bind K:=by
 cases e with
 |inl x=>exact h1 x
 |inr x=>exact h2 x
end
section
variable {R:Type}
theorem agI{C:FuncId->gE R}{k:Nat}{fn:Func}{code:Code}{l q:List SV}{b:ae fc}{K:List SV->ae fc->ae R}(h:df E.ps l=q)(hq:df E.ps q=q)(hl:q.length=l.length):qY E C k fn code l b K=qY E C k fn code q b K:=by unfold qY;simp only[h,hq,hl]
theorem Pz:∀{ts:List Ty} {q:List SV},(∀s∈q,s.shut=s/\s≠ .jJ)->df ts q=q
 |ts,[],_=>by cases ts<;>simp [df]
 | [],q,_=>by simp [df]
 |t::r,v::q,h=>by have h1:=h v (by simp);have h2:=Pz (ts:=r) (q:=q) (λs hs=>h s (by simp [hs]));cases t<;>cases v<;>simp [df,h2]<;>first|exact h1.1|exact absurd rfl h1.2
theorem akz{ts:List Ty}{l:List SV}(h:df ts l=[]):l=[]:=by have:=VY ts l;rw[h] at this;exact List.length_eq_zero_iff.1 this.symm
theorem Py{t:Ty}{r:List Ty}{l:List SV}{v':SV}{q':List SV}(h:df (t::r) l=v'::q'):∃v q,l=v::q:=by
 cases l with
 |nil=>simp [df] at h
 |cons v q=>exact⟨v,q,rfl⟩
theorem vR{t:Ty}{r:List Ty}{l:List SV}{a:SV}{q':List SV}{K:El t->ae R}{z:R}(hn:df (t::r) l=a::q')(h:a.el t K=some z):∃y v q,a= .b8 t y []/\l=v::q/\df r q=q'/\K y=some z:=by obtain⟨v,q,rfl⟩:=Py hn;obtain⟨y,h1,h2,h3⟩:=amC hn h;exact⟨y,v,q,h1,rfl,h2.symm,h3⟩
theorem JE{l q:List SV}(hn:df E.ps l=q)(hd:∀s∈q,s.shut=s/\s≠ .jJ){C:FuncId->gE R}{k:Nat}{fn:Func}{code:Code}{b:ae fc}{K:List SV->ae fc->ae R}:qY E C k fn code l b K=qY E C k fn code q b K:=
 agI hn (Pz hd) (by rw[<-hn,VY])
theorem E0{t:Ty}{x:El t}:(SV.b8 t x []).shut=SV.b8 t x []/\SV.b8 t x []≠ .jJ:=⟨rfl,by simp⟩
def pk(E:Env)(l q:List SV):Prop:=∀{R:Type} (C:FuncId->gE R) (k:Nat) (fn:Func) (code:Code) (b:ae fc) (K:List SV->ae fc->ae R),qY E C k fn code l b K=qY E C k fn code q b K
theorem Ey{l:List SV}{F:ae R}{z:R}(qA:E.ps=[])(h:oe (df [] l) F=some z):F=some z/\pk E l []:=by
 unfold oe at h;split at h
 ·rename_i hn;have:=akz hn;subst this;exact⟨h,λC k fn code b K=>rfl⟩
 ·cases h
theorem Ok{t:Ty}{l:List SV}{F:El t->ae R}{z:R}(qA:E.ps=[t])(h:og t (df [t] l) F=some z):∃x,F x=some z/\pk E l [.b8 t x []]:=by
 unfold og at h;split at h
 ·rename_i a hn;obtain⟨x,v,q,rfl,rfl,h1,h⟩:=vR hn h;refine⟨x,h,λC k fn code b K=>JE (by rw[qA];exact hn) ?_⟩;intro s hs;simp only[aH,dR,or_false] at hs;subst hs;exact E0
 ·cases h
theorem sr{t u:Ty}{l:List SV}{F:El t->El u->ae R}{z:R}(qA:E.ps=[t,u])(h:nM t u (df [t,u] l) F=some z):∃x y,F x y=some z/\pk E l [.b8 t x [],.b8 u y []]:=by
 unfold nM at h;split at h
 ·rename_i a b hn;obtain⟨x,v,q,rfl,rfl,h1,h⟩:=vR hn h;obtain⟨y,v',q',rfl,rfl,h2,h⟩:=vR h1 h;refine⟨x,y,h,λC k fn code b K=>JE (by rw[qA];exact hn) ?_⟩;intro s hs;simp only[aH,dR,or_false] at hs;rcases hs with rfl|rfl<;>exact E0
 ·cases h
theorem abU{t u v:Ty}{l:List SV}{F:El t->El u->El v->ae R}{z:R}(qA:E.ps=[t,u,v])(h:tg t u v (df [t,u,v] l) F=some z):∃x y a,F x y a=some z/\pk E l [.b8 t x [],.b8 u y [],.b8 v a []]:=by
 unfold tg at h;split at h
 ·rename_i a b c hn;obtain⟨x,v,q,rfl,rfl,h1,h⟩:=vR hn h;obtain⟨y,v',q',rfl,rfl,h2,h⟩:=vR h1 h;obtain⟨w,v',q',rfl,rfl,h3,h⟩:=vR h2 h;refine⟨x,y,w,h,λC k fn code b K=>JE (by rw[qA];exact hn) ?_⟩;intro s hs;simp only[aH,dR,or_false] at hs;rcases hs with rfl|rfl|rfl<;>exact E0
 ·cases h
theorem abV{t u v w:Ty}{l:List SV}{F:El t->El u->El v->El w->ae R}{z:R}(qA:E.ps=[t,u,v,w])(h:ti t u v w (df [t,u,v,w] l) F=some z):∃x y a b,F x y a b=some z/\pk E l [.b8 t x [],.b8 u y [],.b8 v a [],.b8 w b []]:=by
 unfold ti at h;split at h
 ·rename_i a b c d hn;obtain⟨x,v,q,rfl,rfl,h1,h⟩:=vR hn h;obtain⟨y,v',q',rfl,rfl,h2,h⟩:=vR h1 h;obtain⟨w,v',q',rfl,rfl,h3,h⟩:=vR h2 h;obtain⟨w',v',q',rfl,rfl,h4,h⟩:=vR h3 h;refine⟨x,y,w,w',h,λC k fn code b K=>JE (by rw[qA];exact hn) ?_⟩;intro s hs;simp only[aH,dR,or_false] at hs;rcases hs with rfl|rfl|rfl|rfl<;>exact E0
 ·cases h
theorem zgt{t:Ty}{own:List (List Nat)}{l:List SV}{b:ae fc}{F:El t->List SV->ae R}{z:R}(h:rO t own l b F=some z):∃x r,l= .ptr 0 t []::r/\b=some ⟨t,x,own⟩/\F x r=some z:=by
 unfold rO at h;split at h
 ·rename_i u r B;split at h
  ·rename_i hB;split at h
   ·rename_i hu;simp only[ar,beq_iff_eq] at hu;obtain⟨h1,h2⟩:=hu;obtain⟨Bt,Bx,Bo⟩:=B;have:=Ty.cS hB;have h3:=Ty.cS h1;subst this;subst h3;subst h2;exact⟨Bx,r,rfl,rfl,h⟩
   ·cases h
  ·cases h
 ·cases h
theorem akG{ts:List Ty}{l:List SV}{t:Ty}{r:List SV}(h:df (.unit::ts) l= .ptr 0 t []::r):∃q,l= .ptr 0 t []::q/\df ts q=r:=by obtain⟨v,q,rfl⟩:=Py h;cases v<;>simp [df,SV.shut] at h;obtain⟨⟨rfl,rfl,rfl⟩,h2⟩:=h;exact⟨q,rfl,h2⟩
theorem SI{t:Ty}:(SV.ptr 0 t []).shut=SV.ptr 0 t []/\SV.ptr 0 t []≠ .jJ:=⟨rfl,by simp⟩
theorem Ig{t:Ty}{own:List (List Nat)}{ts:List Ty}{l:List SV}{b:ae fc}{F:El t->List SV->ae R}{z:R}(h:rO t own (df (.unit::ts) l) b F=some z):∃x q,l= .ptr 0 t []::q/\b=some ⟨t,x,own⟩/\F x (df ts q)=some z:=by obtain⟨x,r,h1,h2,h3⟩:=zgt h;obtain⟨q,rfl,hq⟩:=akG h1;exact⟨x,q,rfl,h2,by rw[hq];exact h3⟩
theorem pk.ptr{t:Ty}{ts:List Ty}{q q':List SV}(qA:E.ps= .unit::ts)(hn:df ts q=q')(hd:∀s∈q',s.shut=s/\s≠ .jJ):pk E (.ptr 0 t []::q) (.ptr 0 t []::q'):=λC k fn code b K=>
 JE (by rw[qA];simp [df,SV.shut,hn]) (λs hs=>by
  rcases aH.1 hs with rfl|hs
  ·exact SI
  ·exact hd s hs)
theorem Ol{t:Ty}{q:List SV}{F:ae R}{z:R}(qA:E.ps=[.unit])(h:oe (df [] q) F=some z):F=some z/\pk E (.ptr 0 t []::q) [.ptr 0 t []]:=by
 unfold oe at h;split at h
 ·rename_i hn;exact⟨h,pk.ptr qA hn (by simp)⟩
 ·cases h
theorem Om{t u:Ty}{q:List SV}{F:El u->ae R}{z:R}(qA:E.ps=[.unit,u])(h:og u (df [u] q) F=some z):∃x,F x=some z/\pk E (.ptr 0 t []::q) [.ptr 0 t [],.b8 u x []]:=by
 unfold og at h;split at h
 ·rename_i a hn;obtain⟨x,v,q,rfl,rfl,h1,h⟩:=vR hn h;refine⟨x,h,pk.ptr qA hn ?_⟩;intro s hs;simp only[aH,dR,or_false] at hs;subst hs;exact E0
 ·cases h
theorem On{t u v:Ty}{q:List SV}{F:El u->El v->ae R}{z:R}(qA:E.ps=[.unit,u,v])(h:nM u v (df [u,v] q) F=some z):∃x y,F x y=some z/\pk E (.ptr 0 t []::q) [.ptr 0 t [],.b8 u x [],.b8 v y []]:=by
 unfold nM at h;split at h
 ·rename_i a b hn;obtain⟨x,v,q,rfl,rfl,h1,h⟩:=vR hn h;obtain⟨y,v',q',rfl,rfl,h2,h⟩:=vR h1 h;refine⟨x,y,h,pk.ptr qA hn ?_⟩;intro s hs;simp only[aH,dR,or_false] at hs;rcases hs with rfl|rfl<;>exact E0
 ·cases h
theorem Oq{t pt bt:Ty}{own:List (List Nat)}{l:List SV}{b:ae fc}{F:El t->El bt->ae R}{z:R}(qA:E.ps=[t,.unit])(h:tf t pt bt own (df [t,.unit] l) b F=some z):
 ∃x y,b=some ⟨bt,y,own⟩/\F x y=some z/\pk E l [.b8 t x [],.ptr 0 pt []]:=by
 unfold tf at h;split at h
 ·rename_i a u B hn;split at h
  ·rename_i hB;split at h
   ·rename_i hu;simp only[ar,beq_iff_eq] at hu;obtain⟨h1,h2⟩:=hu;obtain⟨Bt,Bx,Bo⟩:=B;have:=Ty.cS hB;have h3:=Ty.cS h1;subst this;subst h3;subst h2;obtain⟨y,v,q,rfl,rfl,h4,h⟩:=vR hn h;refine⟨y,Bx,rfl,h,λC k fn code b K=>JE (by rw[qA];exact hn) ?_⟩;intro s hs;simp only[aH,dR,or_false] at hs;rcases hs with rfl|rfl
    ·exact E0
    ·exact SI
   ·cases h
  ·cases h
 ·cases h
theorem R7{t:Ty}{x:El t}:(SV.view t x).shut=SV.view t x/\SV.view t x≠ .jJ:=⟨rfl,by simp⟩
theorem Oo{t u v w:Ty}{l:List SV}{F:El t->El u->El v->El w->ae R}{z:R}(qA:E.ps=[t,u,.unit,.unit])(h:Lx t u v w (df [t,u,.unit,.unit] l) F=some z):
 ∃p q x y,F p q x y=some z/\pk E l [.b8 t p [],.b8 u q [],.view v x,.view w y]:=by
 unfold Lx at h;split at h
 ·rename_i a b v' x w' y hn;split at h
  ·rename_i hv;split at h
   ·rename_i hw;have:=Ty.cS hv;have h3:=Ty.cS hw;subst this;subst h3;obtain⟨p,v1,q1,rfl,rfl,h4,h⟩:=vR hn h;obtain⟨q,v2,q2,rfl,rfl,h5,h⟩:=vR h4 h;refine⟨p,q,x,y,h,λC k fn code b K=>JE (by rw[qA];exact hn) ?_⟩;intro s hs;simp only[aH,dR,or_false] at hs;rcases hs with rfl|rfl|rfl|rfl
    ·exact E0
    ·exact E0
    ·exact R7
    ·exact R7
   ·cases h
  ·cases h
 ·cases h
end
end Go.Ref

namespace Go.Ref
open Go
variable {P:Program} {tq:n4} {E:Env}
def bZ.after(X:bZ)(w:World):bZ:=⟨w,λg=>if g<X.w.heap.size then X.ow g else .ro 0,X.β⟩
theorem zt5{X:bZ}{w:World}(h:gR X.w.heap.size X.w w){a:Addr}{v:Value}(hs:X.cf a v):(X.after w).cf a v:=by
 have bS:=bZ.p7 hs;refine⟨hs.1,?_,?_⟩
 ·have:=hs.2.1;simp only[bP] at this⊢;rw[show(X.after w).w=w from rfl,h.block _ bS];exact this
 ·simp only[bZ.after];rw[if_pos bS];exact hs.2.2
theorem af3{X:bZ}{w:World}(h:gR X.w.heap.size X.w w):Ext X (X.after w) where
 cf:=λ_ _=>zt5 h
 size:=h.size
 os:=h.os
 tape:=h.tape
 output:=h.output
 β0:=rfl
 still:=λg hg _=>⟨by simp only[bZ.after];rw[if_pos hg],h.block g hg⟩
theorem akl{C:bu}(h0:∀f,kX P tq C f){n:FuncId}{g:Pure}(m3:Ah P n)
 (h:∀(l:List SV) (b:ae fc) (r:List SV) (b':ae fc),g (List SV×ae fc) l b (λr b=>some (r,b))=some (r,b')->b'=none/\(∀id t p,SV.ptr id t p∉r)/\r.any SV.fY=false/\
   ∀(X:bZ) (args:Array Value),rF tq X l b args->Calls P n args X.w λe w'=>∃v,e= .returned v/\gR X.w.heap.size X.w w'/\∀Y:bZ,Y.w=w'->(∀a v,X.cf a v->Y.cf a v)->kj Y .r r v):∀f,kX P tq (C.add n [] g) f:=by
 intro f;by_cases e:f=n
 ·subst e;intro l b r b' hc;unfold bu.add at hc;have hb:ak f f=true:=by simp
  rw[hb] at hc;have hc:g (List SV×ae fc) (df [] l) b (λr b=>some (r,b))=some (r,b'):=hc;have hl:df [] l=l:=by cases l<;>rfl
  rw[hl] at hc;obtain⟨rfl,hp,mJ,HM⟩:=h l b r b' hc;refine⟨m3,λX args pq=>(HM X args pq).mono λe w' he=> ?_⟩;obtain⟨v,rfl,hB,cY⟩:=he;refine⟨X.after w',rfl,af3 hB,0,cY {X.after w' with β:=λ_=>some 0} rfl (λa v hs=>(zt5 hB hs:(X.after w').cf a v)),λB' mW=>(by cases mW),λ_=>hp,mJ⟩
 ·intro l b r b' hc;unfold bu.add at hc;have:ak f n=false:=by
   cases hh:ak f n with
   |false=>rfl
   |true=>exact absurd (aE hh) e
  rw[this] at hc;exact h0 f l b r b' hc
theorem O6{X:bZ}{l:List SV}{b:ae fc}{args:Array Value}(h:rF tq X l b args){i:Nat}{sv:SV}(hs:l[i]? =some sv){x:af}(hx:∀(X:bZ) (pl:List Nat->Place) (v:Value),cq X pl sv v->∃cs,eC X .str x cs/\v=mH .str cs):args[i]? =some (.string x):=by
 have bS:i<args.size:=by rw[h.size];exact(aC.1 hs).1
 rw[bf bS];obtain⟨cs,h1,h2⟩:=hx X _ _ (h.rep i sv _ hs (bf bS));rw[h2,z28 h1]
theorem agG{X:bZ}{l:List SV}{b:ae fc}{args:Array Value}(h:rF tq X l b args){i:Nat}{sv:SV}(hs:l[i]? =some sv){k:IntKind}{n:Int}(hx:∀(X:bZ) (pl:List Nat->Place) (v:Value),cq X pl sv v->∃cs,eC X (.int k) n cs/\v=mH (.int k) cs):args[i]? =some (.int k n):=by
 have bS:i<args.size:=by rw[h.size];exact(aC.1 hs).1
 rw[bf bS];obtain⟨cs,h1,h2⟩:=hx X _ _ (h.rep i sv _ hs (bf bS));rw[h2,tK h1]
theorem ajC{args:Array Value}{v:Value}(hs:args.size=1)(h:args[0]? =some v):args= #[v]:=by
 apply lI
 match hl:args.toList,(show args.toList.length=1 by simpa using hs) with
 | [x],_=>
   have:args.toList[0]? =some v:=by simpa using h
   rw[hl] at this;simpa using this
theorem P8{args:Array Value}{u v:Value}(hs:args.size=2)(h:args[0]? =some u)(h1:args[1]? =some v):args= #[u,v]:=by
 apply lI
 match hl:args.toList,(show args.toList.length=2 by simpa using hs) with
 | [x,y],_=>
   have a:args.toList[0]? =some u:=by simpa using h
   have b:args.toList[1]? =some v:=by simpa using h1
   rw[hl] at a b;simp at a b;rw[a,b]
theorem akm{C:bu}(h0:∀f,kX P tq C f){n:FuncId}(m3:Ah P n)(F:af->Int->ae af)
 (h:∀(s:af) (k:Int) (r:af),F s k=some r->∀w:World,Calls P n #[.string s,.int .i64 k] w λe w'=>e= .returned (.string r)/\gR w.heap.size w w'):
 ∀f,kX P tq (C.add n [] λR l b K=>oH b (nM .str (.int .i64) l λx0 x1=>(F x0 x1).bind λr=>K [.b8 .str r []] none)) f:=by
 refine akl h0 m3 λl b r b' hc=> ?_;obtain⟨hb,hc2⟩:=Jx hc;clear hc;subst hb;have hc:=hc2;clear hc2;unfold nM at hc;split at hc
 case h_2=>cases hc
 rename_i sa sb;obtain⟨s,hc,hs⟩:=zy hc;obtain⟨k,hc,hk⟩:=zy hc;have hc:((F s k).bind λr=>some (([SV.b8 .str r []]:List SV),(none:ae fc)))=some (r,b'):=hc;cases hF:F s k with
 |none=>rw[hF] at hc;cases hc
 |some x=>rw[hF] at hc;cases hc;refine⟨rfl,(λid t p hm=>by simp at hm),rfl,λX args pq=> ?_⟩;have e:=P8 pq.size (O6 pq rfl hs) (agG pq rfl hk);rw[e];exact(h s k x hF X.w).mono λe w' ⟨he,hB⟩=>⟨_,he,hB,λY _ _=>Ha⟩
end Go.Ref
namespace eL
open Go Go.Ref
def strings_Repeat(s:af)(k:Int):ae af:=
 bif decide (0<=k) then bif decide (k<=9223372036854775807) then bif decide ((s.size:Int)*k<=140737488355328) then some ⟨(Go.Lib.repeatL s.data.toList k.toNat).toArray⟩ else none else none else none
theorem zdl{P:Program}{ρ:Go.Shelf.Ren}(L:Go.Proofs.Lays.n105 P ρ)(B:Go.Proofs.Builder.Extra P ρ){n:FuncId}(hn:ρ.f 105=n)(s:af)(k:Int)(r:af)(h:strings_Repeat s k=some r)(w:World):
 Calls P n #[.string s,.int .i64 k] w λe w'=>e= .returned (.string r)/\gR w.heap.size w w':=by
 subst hn;unfold strings_Repeat at h;by_cases h0:0<=k
 ·by_cases h1:k<=9223372036854775807
  ·by_cases h2:(s.size:Int)*k<=140737488355328
   ·rw[decide_eq_true h0,decide_eq_true h1,decide_eq_true h2] at h;cases h;obtain⟨c,rfl⟩:∃c:Nat,k=(c:Int):=⟨k.toNat,by omega⟩
    exact Go.Proofs.Any.strings_Repeat L B s c w (by omega) (by rw[<-Int.natCast_mul] at h2;omega)
   ·rw[decide_eq_true h0,decide_eq_true h1,decide_eq_false h2] at h;cases h
  ·rw[decide_eq_true h0,decide_eq_false h1] at h;cases h
 ·rw[decide_eq_false h0] at h;cases h
end eL

namespace Go.Ref
open Go Go.Shelf Go.RowKit Go.Proofs
variable {P:Program} {tq:n4} {E:Env} {ρ:Ren}
abbrev EG(T e:TypeId):Ty:= .dC (.qV T e) .unit .unit
def Vr(x s:af):ae (Int×af):=bif decide (x.size+s.size<=140737488355328) then some ((s.size:Int),x++s) else none
def z57(x:af):ae (af×af):=some (x,x)
def Uy(T e:TypeId):Pure:=λR l b K=>rO (EG T e) [[]] l b λx0 l=>og .str l λx1=>(Vr x0 x1).bind λr=>K [.b8 (.int .i64) r.1 [],.undef] (some ⟨EG T e,r.2,[[]]⟩)
def Ux(T e:TypeId):Pure:=λR l b K=>rO (EG T e) [[]] l b λx0 l=>oe l ((z57 x0).bind λr=>K [.b8 .str r.1 []] (some ⟨EG T e,r.2,[]⟩))
theorem an2(T e:TypeId):(Uy T e).Nat:=λR S l b F G K h=>Tb λ_ _=>zgv λ_=>z24 λ_=>h _ _
theorem an1(T e:TypeId):(Ux T e).Nat:=λR S l b F G K h=>Tb λ_ _=>zgu (z24 λ_=>h _ _)
theorem acI(x s:af):eb (x++s)=eb x++eb s:=by simp [eb,dS]
def bZ.qV(X:bZ)(w:World)(r:Nat)(g:ae Nat):bZ:=⟨w,λk=>if k=r then .box 0 else if g=some k then .row (.b 0 []) 0 else if k<X.w.heap.size then X.ow k else .ro 0,X.β⟩
theorem RC{X:bZ}{w:World}{r:Nat}{g0 g:ae Nat}(how:X.ow r= .box 0)(h0:∀k,g0=some k->X.ow k= .row (.b 0 []) 0)(h:oR r g0 X.w w)(hg:∀k,g=some k->g0=some k\/X.w.heap.size<=k):Ext X (X.qV w r g):=by
 have lH:∀k,k<X.w.heap.size->X.ow k≠ .box 0->X.ow k≠ .row (.b 0 []) 0->(X.qV w r g).ow k=X.ow k/\w.heap[k]? =X.w.heap[k]? :=λk hk h1 h2=>by
  have hr:k≠r:=λe=>h1 (by rw[e];exact how);have hg1:g≠some k:=λe=>by
   rcases hg k e with e2|e2
   ·exact h2 (h0 k e2)
   ·omega
  have hg2:some k≠g0:=λe=>h2 (h0 k e.symm);refine⟨?_,h.block k hk hr hg2⟩;simp only[bZ.qV];rw[if_neg hr,if_neg hg1,if_pos hk]
 refine⟨λa v hs=> ?_,h.size,h.os,h.tape,h.output,rfl,λk hk gv=> ?_⟩
 ·have bS:=bZ.p7 hs;have hu:=hs.2.2;obtain⟨k1,k2⟩:=lH a.block bS (λe=>by rw[e] at hu;exact hu) (λe=>by rw[e] at hu;exact Nat.not_lt_zero _ hu);refine⟨hs.1,?_,by rw[k1];exact hu⟩;have:=hs.2.1;simp only[bP] at this⊢;rw[show(X.qV w r g).w.heap=w.heap from rfl,k2];exact this
 ·exact lH k hk (λe=>by rw[e] at gv;exact gv) (λe=>by rw[e] at gv;exact gv)
theorem Qd(n:Nat):ak n n=true:=by simp
theorem Sq{f n:Nat}(e:f≠n):ak f n=false:=by
 cases hh:ak f n with
 |false=>rfl
 |true=>exact absurd (aE hh) e
theorem age{C:bu}(h0:∀f,kX P tq C f){n T e:TypeId}(m3:Ah P n)(L:Lays.n166 P ρ)(X0:Builder.Extra P ρ)(hn:ρ.f 166=n)(hT:ρ.t 72=T)(he:ρ.t 5=e):∀f,kX P tq (C.add n [] (Uy T e)) f:=by
 subst hT he;intro f;by_cases ef:f=n
 ·subst ef;intro l b r b' hc;unfold bu.add at hc;rw[Qd] at hc;have hc:Uy (ρ.t 72) (ρ.t 5) (List SV×ae fc) (df [] l) b (λr b=>some (r,b))=some (r,b'):=hc;have hl:df [] l=l:=by cases l<;>rfl
  rw[hl] at hc;unfold Uy at hc;obtain⟨x,q,rfl,rfl,Nr⟩:=zgt hc;clear hc;have hc:=Nr;clear Nr;unfold og at hc;split at hc
  case h_2=>cases hc
  rename_i a;obtain⟨s,hc,hs⟩:=zy hc;unfold Vr at hc;cases hd:decide (ByteArray.size x+s.size<=140737488355328) with
  |false=>rw[hd] at hc;cases hc
  |true=>
   rw[hd] at hc;cases hc;have hlen:=of_decide_eq_true hd;refine⟨m3,λX args pq=> ?_⟩;obtain⟨r0,hβ,how,⟨o,ho⟩,hb⟩:=pq.box _ rfl;obtain⟨v,hB,hv⟩:=hb (by simp);have lV:args.size=2:=by rw[pq.size];rfl
   have a0:args[0]? =some (.pointer (some ⟨r0,0,none⟩)):=by rw[bf (by omega)];obtain⟨r1,g1,g2⟩:=pq.rep 0 _ _ rfl (bf (by omega));rw[hβ] at g1;cases g1;rw[((Th rfl).1 g2).1];rfl
   have a1:args[1]? =some (.string s):=O6 pq (i:=1) rfl hs;rw[P8 lV a0 a1,<-hn];refine(agh L X0 r0 v (eb x) s X.w hB (by rw[Lib.strCells_length];exact hlen)).mono ?_;rintro e w' ⟨rfl,v',mW,D2,pw⟩;have hY:(X.qV w' r0 v'.ownBlock).ow r0= .box 0:=by simp [bZ.qV]
   refine⟨X.qV w' r0 v'.ownBlock,rfl,RC how hv D2 pw,r0,⟨_,rfl,rfl,λj sv u hj hu=> ?_⟩,λB' kQ=> ?_,(λ_ id t p hm=>by simp at hm),rfl⟩
   ·match j with
    |0=>cases hj;cases hu;exact qN
    |1=>cases hj;trivial
    |j+2=>simp at hj
   ·cases kQ;refine⟨⟨hY,?_,λ_=>⟨v',by rw[acI];exact mW,λg hg=> ?_⟩⟩,λ_=>hβ⟩
    ·rcases mW.uV with h|h<;>exact⟨_,h⟩
    ·simp only[bZ.qV];rw[if_neg (λe=>mW.ne (by rw[hg,e])),if_pos hg]
 ·intro l b r b' hc;unfold bu.add at hc;rw[Sq ef] at hc;exact h0 f l b r b' hc
theorem agd{C:bu}(h0:∀f,kX P tq C f){n T e:TypeId}(m3:Ah P n)(L:Lays.n169 P ρ)(X0:Builder.Extra P ρ)(hn:ρ.f 169=n)(hT:ρ.t 72=T)(he:ρ.t 5=e):∀f,kX P tq (C.add n [] (Ux T e)) f:=by
 subst hT he;intro f;by_cases ef:f=n
 ·subst ef;intro l b r b' hc;unfold bu.add at hc;rw[Qd] at hc;have hc:Ux (ρ.t 72) (ρ.t 5) (List SV×ae fc) (df [] l) b (λr b=>some (r,b))=some (r,b'):=hc;have hl:df [] l=l:=by cases l<;>rfl
  rw[hl] at hc;unfold Ux at hc;obtain⟨x,q,rfl,rfl,Nr⟩:=zgt hc;clear hc;have hc:=Nr;clear Nr;unfold oe at hc;split at hc
  case h_2=>cases hc
  cases hc;refine⟨m3,λX args pq=> ?_⟩;obtain⟨r0,hβ,how,⟨o,ho⟩,hb⟩:=pq.box _ rfl;obtain⟨v,hB,hv⟩:=hb (by simp);have lV:args.size=1:=by rw[pq.size];rfl
  have a0:args[0]? =some (.pointer (some ⟨r0,0,none⟩)):=by rw[bf (by omega)];obtain⟨r1,g1,g2⟩:=pq.rep 0 _ _ rfl (bf (by omega));rw[hβ] at g1;cases g1;rw[((Th rfl).1 g2).1];rfl
  rw[ajC lV a0,<-hn];refine(ajI L X0 r0 v (x:af).data.toList X.w hB).mono ?_;rintro e w' ⟨rfl,D2⟩;have hY:(X.qV w' r0 none).ow r0= .box 0:=by simp [bZ.qV]
  refine⟨X.qV w' r0 none,rfl,RC how hv D2 (λk hk=>by cases hk),r0,?_,λB' kQ=> ?_,(λ_ id t p hm=>by simp at hm),rfl⟩
  ·exact Ha
  ·cases kQ;refine⟨⟨hY,⟨_,bf (Nat.lt_of_lt_of_le hB.lt D2.size)⟩,λhm=>by cases hm⟩,λ_=>hβ⟩
 ·intro l b r b' hc;unfold bu.add at hc;rw[Sq ef] at hc;exact h0 f l b r b' hc
end Go.Ref

namespace Go.Ref
open Go
variable {P:Program} {tq:n4} {R S:Type}
structure dt(P:Program)(tq:n4)(T:bu):Prop where
 mix:P.follows .mixedOrders=true
 nat:T.Nat
 Cf:∀f,kX P tq T f
noncomputable abbrev cd (fn:Func):Code:=fn.body.getD .skip
noncomputable abbrev CI (E:Env) (T:bu) (R:Type) (k:Nat) (fn:Func) (l:List SV) (b:ae fc) (K:List SV->ae fc->ae R):ae R:=qY E (T R) k fn (cd fn) l b K
abbrev KF(R:Type):Type:=List SV->ae fc->ae R
abbrev KX(R:Type):Type:=Ex->State->ae R
abbrev nV(β:Type):Type 1:=(R:Type)->β->KF R->ae R
def nV.Nat{β:Type}(o:nV β):Prop:=∀(R S:Type) r (F:KF R) (G:KF S) (K:S->ae R),(∀r b,F r b=(G r b).bind K)->o R r F=(o S r G).bind K
def Bw(fn:Func):Bool:= !(fn.name== "runtime.NumGoroutine")&&fn.body.isSome
def tI(x:Int):SV:= .b8 (.int .i64) x []
def tU(x:Int):SV:= .b8 (.int .u8) x []
def tB(x:Bool):SV:= .b8 .bool x []
def tS(x:af):SV:= .b8 .str x []
abbrev iA(x:Int):List SV:=[tI x]
abbrev uA(x:Int):List SV:=[tU x]
abbrev bA(x:Bool):List SV:=[tB x]
abbrev sA(x:af):List SV:=[tS x]
abbrev dA(t:Ty)(x:El t):List SV:=[.b8 t x []]
abbrev dB(t:Ty)(x:El t):List SV:=[.b8 t x [[]]]
abbrev pA(n:Nat)(t:Ty):List SV:=[.ptr n t []]
abbrev oA(t:Ty)(x:El t):ae fc:=some ⟨t,x,[]⟩
abbrev oB(t:Ty)(x:El t):ae fc:=some ⟨t,x,[[]]⟩
def pth:Nat->Nat->List Nat->List Nat
 |0,_,l=>l
 |k+1,n,l=>bif bC n 1 then l else pth k (n/2) (n % 2::l)
noncomputable def sq (f:Func) (p:Nat):Code:=sub (pth 300 p []) (cd f)
noncomputable def lq {R:Type} (E:Env) (T:bu) (kk:Nat) (f:Func) (p k:Nat) (J:KX R) (s:State):ae R:=oG (ev E (T R) kk (sq f p)) (E.lH (wU (sq f p))) (E.qD (wU (sq f p))) k s J
noncomputable def lk {R:Type} (E:Env) (T:bu) (kk:Nat) (f:Func) (p k:Nat) (J:KX R):KX R:=Oe (ev E (T R) kk (sq f p)) (E.lH (wU (sq f p))) (E.qD (wU (sq f p))) k J
noncomputable def sk {R:Type} (E:Env) (T:bu) (kk:Nat) (f:Func) (p:Nat) (K:KX R):KX R:=aaL E (T R) kk (sq f p) K
noncomputable def fk {R:Type} (E:Env) (f:Func) (b:ae fc) (K:KF R):KX R:=aaK E f.results.toList b K
def kp:List (Nat×List Nat)->Nat->List Nat
 | [],_=>[]
 |(a,l)::r,i=>bif ak i a then l else kp r i
theorem Sz{kk:Nat}(hF:kk=bE){R:Type}(f:Unit->ae R):jR kk f=f ():=by rw[hF];exact ad6 f
theorem cP:(∀{R S:Type} (c:Bool) (x y:ae S) (F:S->ae R),(bif c then x else y).bind F=bif c then x.bind F else y.bind F)/\(∀{R S:Type} (i:Int) (n:Nat) (x:ae S) (F:S->ae R),(zd i n x).bind F=zd i n (x.bind F))/\
 (∀{R S:Type} (F:S->ae R),(.none:ae S).bind F= .none)/\(∀{R S:Type} (x:S) (F:S->ae R),(some x).bind F=F x)/\(∀{R S α β:Type} (f:α->ae S) (g:β->ae S) (e:α⊕β) (F:S->ae R),(aA f g e).bind F=aA (λx=>(f x).bind F) (λx=>(g x).bind F) e)/\
 (∀{R S α:Type} (x:ae α) (f:α->ae S) (F:S->ae R),(x.bind f).bind F=x.bind λy=>(f y).bind F)/\(∀{α β γ:Type} (f:α->γ) (g:β->γ) (x:α),aA f g (.inl x)=f x)/\(∀{α β γ:Type} (f:α->γ) (g:β->γ) (x:β),aA f g (.inr x)=g x):=
 ⟨zh8,adi,ag5,zc,akN,agc,λ_ _ _=>rfl,λ_ _ _=>rfl⟩
theorem dt.none(hm:P.follows .mixedOrders=true):dt P tq bu.none:=⟨hm,aky,ag6⟩
theorem dt.add{E:Env}{T:bu}(h:dt P tq T)(hE:bN P E){n:FuncId}{ps:List Ty}{g:Pure}{fn:Func}(qb:P.funcs[n]? =some fn)(hc:Bw fn=true)(hg:g.Nat)
 (h1:∀(l:List SV) (b:ae fc) (r:List SV) (b':ae fc),g (List SV×ae fc) (df ps l) b (λr b=>some (r,b))=some (r,b')->∃k,qY E (T (List SV×ae fc)) k fn (cd fn) l b (λr b=>some (r,b))=some (r,b')):dt P tq (T.add n ps g):=by
 obtain⟨h2,h3⟩:=Bool.and_eq_true_iff.1 hc;refine⟨h.mix,YW h.nat hg,ajA hE h.mix h.nat h.Cf qb (by simpa using h2) ?_ h1⟩;cases e:fn.body with
 |none=>rw[e] at h3;cases h3
 |some c=>simp [cd,e]
def KJ{β:Type}(f:ae β)(o:nV β):Pure:=λR l b K=>oH b (oe l (f.bind λr=>o R r K))
theorem OD(E:Env){T:bu}{n:FuncId}{fn:Func}{β:Type}{f:ae β}{o:nV β}(m:(R:Type)->Nat->KF R->ae R)(h0:dt P tq T)(hE:bN P E)(qb:P.funcs[n]? =some fn)
 (h2:∀(R:Type) kk (e:kk=bE) (K:KF R),m R kk K=f.bind λr=>o R r K) (hc:Bw fn=true:=by kernel_rfl) (hp:E.ps=[]:=by exact rfl) (ho:o.Nat:=by exact λ_ _ _ _ _ _ h=>h _ _) (h1:∀(R:Type) k (K:KF R),CI E T R k fn [] .none K=m R k K:=by intros;kernel_rfl):dt P tq (T.add n [] (KJ f o)):=
 h0.add hE qb hc (λR S l b F G K h=>JB (zgu (z24 λ_=>ho _ _ _ _ _ _ h))) λl b r b' h=>by obtain⟨rfl,h5⟩:=Jx h;obtain⟨h3,h4⟩:=Ey hp h5;exact⟨bE,(h4 _ _ _ _ _ _).trans (((h1 _ _ _).trans (h2 _ _ rfl _)).trans h3)⟩
def kY(t:Ty){β:Type}(f:El t->ae β)(o:nV β):Pure:=λR l b K=>oH b (og t l (λx=>(f x).bind λr=>o R r K))
theorem lv(E:Env){T:bu}{n:FuncId}{fn:Func}{t:Ty}{β:Type}{f:El t->ae β}{o:nV β}(m:(R:Type)->Nat->El t->KF R->ae R)(h0:dt P tq T)(hE:bN P E)(qb:P.funcs[n]? =some fn)
 (h2:∀(R:Type) kk (e:kk=bE) x (K:KF R),m R kk x K=(f x).bind λr=>o R r K) (hc:Bw fn=true:=by kernel_rfl) (hp:E.ps=[t]:=by exact rfl) (ho:o.Nat:=by exact λ_ _ _ _ _ _ h=>h _ _) (h1:∀(R:Type) k x (K:KF R),CI E T R k fn [.b8 t x []] .none K=m R k x K:=by intros;kernel_rfl):dt P tq (T.add n [t] (kY t f o)):=
 h0.add hE qb hc (λR S l b F G K h=>JB (zgv λ_=>z24 λ_=>ho _ _ _ _ _ _ h)) λl b r b' h=>by obtain⟨rfl,h5⟩:=Jx h;obtain⟨x,h3,h4⟩:=Ok hp h5;exact⟨bE,(h4 _ _ _ _ _ _).trans (((h1 _ _ x _).trans (h2 _ _ rfl x _)).trans h3)⟩
def mr(t u:Ty){β:Type}(f:El t->El u->ae β)(o:nV β):Pure:=λR l b K=>oH b (nM t u l (λx y=>(f x y).bind λr=>o R r K))
theorem mE(E:Env){T:bu}{n:FuncId}{fn:Func}{t u:Ty}{β:Type}{f:El t->El u->ae β}{o:nV β}(m:(R:Type)->Nat->El t->El u->KF R->ae R)(h0:dt P tq T)(hE:bN P E)(qb:P.funcs[n]? =some fn)
 (h2:∀(R:Type) kk (e:kk=bE) x y (K:KF R),m R kk x y K=(f x y).bind λr=>o R r K) (hc:Bw fn=true:=by kernel_rfl) (hp:E.ps=[t,u]:=by exact rfl) (ho:o.Nat:=by exact λ_ _ _ _ _ _ h=>h _ _) (h1:∀(R:Type) k x y (K:KF R),CI E T R k fn [.b8 t x [],.b8 u y []] .none K=m R k x y K:=by intros;kernel_rfl):dt P tq (T.add n [t,u] (mr t u f o)):=
 h0.add hE qb hc (λR S l b F G K h=>JB (zgw λ_ _=>z24 λ_=>ho _ _ _ _ _ _ h)) λl b r b' h=>by obtain⟨rfl,h5⟩:=Jx h;obtain⟨x,y,h3,h4⟩:=sr hp h5;exact⟨bE,(h4 _ _ _ _ _ _).trans (((h1 _ _ x y _).trans (h2 _ _ rfl x y _)).trans h3)⟩
def sG(t u v:Ty){β:Type}(f:El t->El u->El v->ae β)(o:nV β):Pure:=λR l b K=>oH b (tg t u v l (λx y a=>(f x y a).bind λr=>o R r K))
theorem sX(E:Env){T:bu}{n:FuncId}{fn:Func}{t u v:Ty}{β:Type}{f:El t->El u->El v->ae β}{o:nV β}(m:(R:Type)->Nat->El t->El u->El v->KF R->ae R)(h0:dt P tq T)(hE:bN P E)(qb:P.funcs[n]? =some fn)
 (h2:∀(R:Type) kk (e:kk=bE) x y a (K:KF R),m R kk x y a K=(f x y a).bind λr=>o R r K) (hc:Bw fn=true:=by kernel_rfl) (hp:E.ps=[t,u,v]:=by exact rfl) (ho:o.Nat:=by exact λ_ _ _ _ _ _ h=>h _ _) (h1:∀(R:Type) k x y a (K:KF R),CI E T R k fn [.b8 t x [],.b8 u y [],.b8 v a []] .none K=m R k x y a K:=by intros;kernel_rfl):dt P tq (T.add n [t,u,v] (sG t u v f o)):=
 h0.add hE qb hc (λR S l b F G K h=>JB (af7 λ_ _ _=>z24 λ_=>ho _ _ _ _ _ _ h)) λl b r b' h=>by obtain⟨rfl,h5⟩:=Jx h;obtain⟨x,y,a,h3,h4⟩:=abU hp h5;exact⟨bE,(h4 _ _ _ _ _ _).trans (((h1 _ _ x y a _).trans (h2 _ _ rfl x y a _)).trans h3)⟩
def Vf(t u v w:Ty){β:Type}(f:El t->El u->El v->El w->ae β)(o:nV β):Pure:=λR l b K=>oH b (ti t u v w l (λx y a b=>(f x y a b).bind λr=>o R r K))
theorem st4(E:Env){T:bu}{n:FuncId}{fn:Func}{t u v w:Ty}{β:Type}{f:El t->El u->El v->El w->ae β}{o:nV β}(m:(R:Type)->Nat->El t->El u->El v->El w->KF R->ae R)(h0:dt P tq T)(hE:bN P E)(qb:P.funcs[n]? =some fn)
 (h2:∀(R:Type) kk (e:kk=bE) x y a b (K:KF R),m R kk x y a b K=(f x y a b).bind λr=>o R r K) (hc:Bw fn=true:=by kernel_rfl) (hp:E.ps=[t,u,v,w]:=by exact rfl) (ho:o.Nat:=by exact λ_ _ _ _ _ _ h=>h _ _) (h1:∀(R:Type) k x y a b (K:KF R),CI E T R k fn [.b8 t x [],.b8 u y [],.b8 v a [],.b8 w b []] .none K=m R k x y a b K:=by intros;kernel_rfl):dt P tq (T.add n [t,u,v,w] (Vf t u v w f o)):=
 h0.add hE qb hc (λR S l b F G K h=>JB (af8 λ_ _ _ _=>z24 λ_=>ho _ _ _ _ _ _ h)) λl b r b' h=>by obtain⟨rfl,h5⟩:=Jx h;obtain⟨x,y,a,b,h3,h4⟩:=abV hp h5;exact⟨bE,(h4 _ _ _ _ _ _).trans (((h1 _ _ x y a b _).trans (h2 _ _ rfl x y a b _)).trans h3)⟩
def Ov(T0:Ty)(wn:List (List Nat)){β:Type}(f:El T0->ae β)(o:nV β):Pure:=λR l b K=>rO T0 wn l b λz l=>oe l ((f z).bind λr=>o R r K)
theorem sb0(E:Env){T:bu}{n:FuncId}{fn:Func}{T0:Ty}{wn:List (List Nat)}{β:Type}{f:El T0->ae β}{o:nV β}(m:(R:Type)->Nat->El T0->KF R->ae R)(h0:dt P tq T)(hE:bN P E)(qb:P.funcs[n]? =some fn)
 (h2:∀(R:Type) kk (e:kk=bE) z (K:KF R),m R kk z K=(f z).bind λr=>o R r K) (hc:Bw fn=true:=by kernel_rfl) (hp:E.ps=[.unit]:=by exact rfl) (ho:o.Nat:=by exact λ_ _ _ _ _ _ h=>h _ _) (h1:∀(R:Type) k z (K:KF R),CI E T R k fn [.ptr 0 T0 []] (some ⟨T0,z,wn⟩) K=m R k z K:=by intros;kernel_rfl):dt P tq (T.add n [.unit] (Ov T0 wn f o)):=
 h0.add hE qb hc (λR S l b F G K h=>Tb λ_ _=>zgu (z24 λ_=>ho _ _ _ _ _ _ h)) λl b r b' h=>by unfold Ov at h;obtain⟨z,q,rfl,rfl,h5⟩:=Ig h;obtain⟨h3,h4⟩:=Ol hp h5;exact⟨bE,(h4 _ _ _ _ _ _).trans (((h1 _ _ z _).trans (h2 _ _ rfl z _)).trans h3)⟩
def KI(T0:Ty)(wn:List (List Nat))(t:Ty){β:Type}(f:El T0->El t->ae β)(o:nV β):Pure:=λR l b K=>rO T0 wn l b λz l=>og t l (λx=>(f z x).bind λr=>o R r K)
theorem Vk(E:Env){T:bu}{n:FuncId}{fn:Func}{T0:Ty}{wn:List (List Nat)}{t:Ty}{β:Type}{f:El T0->El t->ae β}{o:nV β}(m:(R:Type)->Nat->El T0->El t->KF R->ae R)(h0:dt P tq T)(hE:bN P E)(qb:P.funcs[n]? =some fn)
 (h2:∀(R:Type) kk (e:kk=bE) z x (K:KF R),m R kk z x K=(f z x).bind λr=>o R r K) (hc:Bw fn=true:=by kernel_rfl) (hp:E.ps=[.unit,t]:=by exact rfl) (ho:o.Nat:=by exact λ_ _ _ _ _ _ h=>h _ _) (h1:∀(R:Type) k z x (K:KF R),CI E T R k fn [.ptr 0 T0 [],.b8 t x []] (some ⟨T0,z,wn⟩) K=m R k z x K:=by intros;kernel_rfl):dt P tq (T.add n [.unit,t] (KI T0 wn t f o)):=
 h0.add hE qb hc (λR S l b F G K h=>Tb λ_ _=>zgv λ_=>z24 λ_=>ho _ _ _ _ _ _ h) λl b r b' h=>by unfold KI at h;obtain⟨z,q,rfl,rfl,h5⟩:=Ig h;obtain⟨x,h3,h4⟩:=Om hp h5;exact⟨bE,(h4 _ _ _ _ _ _).trans (((h1 _ _ z x _).trans (h2 _ _ rfl z x _)).trans h3)⟩
def pb2(T0:Ty)(wn:List (List Nat))(t u:Ty){β:Type}(f:El T0->El t->El u->ae β)(o:nV β):Pure:=λR l b K=>rO T0 wn l b λz l=>nM t u l (λx y=>(f z x y).bind λr=>o R r K)
theorem sb2(E:Env){T:bu}{n:FuncId}{fn:Func}{T0:Ty}{wn:List (List Nat)}{t u:Ty}{β:Type}{f:El T0->El t->El u->ae β}{o:nV β}(m:(R:Type)->Nat->El T0->El t->El u->KF R->ae R)(h0:dt P tq T)(hE:bN P E)(qb:P.funcs[n]? =some fn)
 (h2:∀(R:Type) kk (e:kk=bE) z x y (K:KF R),m R kk z x y K=(f z x y).bind λr=>o R r K) (hc:Bw fn=true:=by kernel_rfl) (hp:E.ps=[.unit,t,u]:=by exact rfl) (ho:o.Nat:=by exact λ_ _ _ _ _ _ h=>h _ _) (h1:∀(R:Type) k z x y (K:KF R),CI E T R k fn [.ptr 0 T0 [],.b8 t x [],.b8 u y []] (some ⟨T0,z,wn⟩) K=m R k z x y K:=by intros;kernel_rfl):dt P tq (T.add n [.unit,t,u] (pb2 T0 wn t u f o)):=
 h0.add hE qb hc (λR S l b F G K h=>Tb λ_ _=>zgw λ_ _=>z24 λ_=>ho _ _ _ _ _ _ h) λl b r b' h=>by unfold pb2 at h;obtain⟨z,q,rfl,rfl,h5⟩:=Ig h;obtain⟨x,y,h3,h4⟩:=On hp h5;exact⟨bE,(h4 _ _ _ _ _ _).trans (((h1 _ _ z x y _).trans (h2 _ _ rfl z x y _)).trans h3)⟩
def pz(t pt bt:Ty)(wn:List (List Nat)){β:Type}(f:El t->El bt->ae β)(o:nV β):Pure:=λR l b K=>tf t pt bt wn l b λx y=>(f x y).bind λr=>o R r K
theorem sz(E:Env){T:bu}{n:FuncId}{fn:Func}{t pt bt:Ty}{wn:List (List Nat)}{β:Type}{f:El t->El bt->ae β}{o:nV β}(m:(R:Type)->Nat->El t->El bt->KF R->ae R)(h0:dt P tq T)(hE:bN P E)(qb:P.funcs[n]? =some fn)
 (h2:∀(R:Type) kk (e:kk=bE) x y (K:KF R),m R kk x y K=(f x y).bind λr=>o R r K) (hc:Bw fn=true:=by kernel_rfl) (hp:E.ps=[t,.unit]:=by exact rfl) (ho:o.Nat:=by exact λ_ _ _ _ _ _ h=>h _ _) (h1:∀(R:Type) k x y (K:KF R),CI E T R k fn [.b8 t x [],.ptr 0 pt []] (some ⟨bt,y,wn⟩) K=m R k x y K:=by intros;kernel_rfl):dt P tq (T.add n [t,.unit] (pz t pt bt wn f o)):=
 h0.add hE qb hc (λR S l b F G K h=>af6 λ_ _=>z24 λ_=>ho _ _ _ _ _ _ h) λl b r b' h=>by obtain⟨x,y,rfl,h3,h4⟩:=Oq hp h;exact⟨bE,(h4 _ _ _ _ _ _).trans (((h1 _ _ x y _).trans (h2 _ _ rfl x y _)).trans h3)⟩
def pv(t u v w:Ty){β:Type}(f:El t->El u->El v->El w->ae β)(o:nV β):Pure:=λR l b K=>oH b (Lx t u v w l (λx y a b=>(f x y a b).bind λr=>o R r K))
theorem sv(E:Env){T:bu}{n:FuncId}{fn:Func}{t u v w:Ty}{β:Type}{f:El t->El u->El v->El w->ae β}{o:nV β}(m:(R:Type)->Nat->El t->El u->El v->El w->KF R->ae R)(h0:dt P tq T)(hE:bN P E)(qb:P.funcs[n]? =some fn)
 (h2:∀(R:Type) kk (e:kk=bE) x y a b (K:KF R),m R kk x y a b K=(f x y a b).bind λr=>o R r K) (hc:Bw fn=true:=by kernel_rfl) (hp:E.ps=[t,u,.unit,.unit]:=by exact rfl) (ho:o.Nat:=by exact λ_ _ _ _ _ _ h=>h _ _) (h1:∀(R:Type) k x y a b (K:KF R),CI E T R k fn [.b8 t x [],.b8 u y [],.view v a,.view w b] .none K=m R k x y a b K:=by intros;kernel_rfl):dt P tq (T.add n [t,u,.unit,.unit] (pv t u v w f o)):=
 h0.add hE qb hc (λR S l b F G K h=>JB (adA λ_ _ _ _=>z24 λ_=>ho _ _ _ _ _ _ h)) λl b r b' h=>by unfold pv at h;obtain⟨rfl,h5⟩:=Jx h;obtain⟨x,y,a,b,h3,h4⟩:=Oo hp h5;exact⟨bE,(h4 _ _ _ _ _ _).trans (((h1 _ _ x y a b _).trans (h2 _ _ rfl x y a b _)).trans h3)⟩
end Go.Ref

namespace eL
open Go.IntKind renaming wrap->zW,i64->zI,u8->zU
open Go Go.Ref
abbrev yP:Type:=(af×Nat)
abbrev qw:Type:=(Int×Int×Int)
abbrev M9:Type:=(af×Int)
abbrev Zt3:Type:=(Int×af)
abbrev HC:Type:=(List (List Int))
abbrev qT:Type:=(af×Bool)
abbrev dV:Type:=(Int×Int×Unit)
abbrev Na:Type:=(List (Int×Bool))
abbrev Kq:Type:=(af×Int×Int)
abbrev eS:Type:=(Int×af×Unit)
abbrev sL:Type:=(List qT)
abbrev mF:Type:=(af×af×Unit)
abbrev cQ:Type:=(List eS)
abbrev cR:Type:=(Int×Bool×(List Int)×Unit)
abbrev dU:Type:=(Int×Int×Int×Int×Int×Unit)
abbrev uR:Type:=(Int×Int×af×Int×Unit)
abbrev dZ:Type:=(List mF)
abbrev yQ:Type:=(Int×cR)
abbrev rN:Type:=(List dU)
abbrev mY:Type:=(List uR)
abbrev qS:Type:=(cQ×Int×Int)
abbrev cu:Type:=(af×cQ×Unit)
abbrev bm:Type:=(Int×Int×rN×Unit)
abbrev Bu:Type:=(List bm)
abbrev dg:Type:=(Int×Int×Int×af×dZ×Unit)
abbrev yR:Type:=(cQ×Int×Int×cQ)
abbrev js:Type:=(List dg)
abbrev yS:Type:=(cu×dV×cu)
abbrev c9:Type:=(dZ×js×Unit)
abbrev yT:Type:=(af×Int×cu×dV×cu)
abbrev ct:Type:=(bm×c9×(List Int)×cQ×Unit)
abbrev yU:Type:=(List ct)
abbrev tW:Type:=(c9×bm×bm)
abbrev er:Type:=(yU×Int×Unit)
abbrev tX:Type:=(Int×Int×Int×c9×bm×bm)
def Yu{R:Type}(a:af)(b:Int)(c:af->Int->ae R):ae R:=
 c a b
def Yv{R:Type}(a:af)(b:Int)(c:af->Int->ae R)(d:af->ae R):ae R:=
 bif 0<(a.size:Int) then zd (zW zI ((a.size:Int)-1)) a.size (bif ze a (zW zI ((a.size:Int)-(1:Int))).toNat=b then bif 0<=zW zI ((a.size:Int)-1) then bif zW zI ((a.size:Int)-1)<=(a.size:Int) then c (a.extract 0 (zW zI ((a.size:Int)-(1:Int))).toNat) b else none else none else d a) else d a
def Yw{R:Type}(a:af)(b:af->ae R):ae R:=
 b a
def Ld:Nat->af->Int->ae af
 |0,_,_=>none
 |k+1,v0,v1=>Yv v0 v1 (λa0 a1=>Ld k a0 a1) (λa0=>some a0)
def Dl(a:af)(b:Int):ae af:=
 Yu a b (λa0 a1=>(Ld bE a0 a1).bind λe=>Yw e (λa0=>some a0))
def Yq{R:Type}(a:af)(b:Int)(c:af->Int->ae R):ae R:=
 c a b
def Yr{R:Type}(a:af)(b:Int)(c:af->Int->ae R)(d:af->ae R):ae R:=
 bif 0<(a.size:Int) then zd 0 a.size (bif ze a ((0:Int)).toNat=b then bif 1<=(a.size:Int) then c (a.extract ((1:Int)).toNat a.size) b else none else d a) else d a
def Ys{R:Type}(a:af)(b:af->ae R):ae R:=
 b a
def Lc:Nat->af->Int->ae af
 |0,_,_=>none
 |k+1,v0,v1=>Yr v0 v1 (λa0 a1=>Lc k a0 a1) (λa0=>some a0)
def Dk(a:af)(b:Int):ae af:=
 Yq a b (λa0 a1=>(Lc bE a0 a1).bind λe=>Ys e (λa0=>some a0))
def Yo{R:Type}(a b:af)(c:af->ae R):ae R:=
 bif a=bs [] then c a else bif b=bs [] then c a else bif(b.size:Int)=1 then zd 0 b.size (bif ze b ((0:Int)).toNat<128 then zd 0 b.size ((Dl a (ze b ((0:Int)).toNat)).bind λr1=>zd 0 b.size ((Dk r1 (ze b ((0:Int)).toNat)).bind λr2=>c r2)) else none) else none
def Bh(a b:af):ae af:=
 Yo a b (λa0=>some a0)
def ZZ{R:Type}(a:af)(b:yP->ae R):ae R:=
 b (a,0)
def Z0{R:Type}(a:yP)(b:Bool->ae R)(c:yP->ae R)(d:ae R):ae R:=
 bif a.2<a.1.size then bif(((dp a.1 a.2).1:Nat):Int)<48 then b false else bif 57<(((dp a.1 a.2).1:Nat):Int) then b false else c (a.1,a.2+(dp a.1 a.2).2) else d
def z139{R:Type}(a:Bool)(b:Bool->ae R):ae R:=
 b a
def ID{R:Type}(a:Bool->ae R):ae R:=
 a true
def Lo:Nat->yP->ae (Sum Bool Unit)
 |0,_=>none
 |k+1,v0=>Z0 v0 (λa0=>some (.inl a0)) (λa0=>Lo k a0) (some (.inr ()))
def Fe(a:af):ae Bool:=
 ZZ a (λa0=>(Lo bE a0).bind λe=>aA (λ(we:Bool)=>z139 we (λa0=>some a0)) (λ(we:Unit)=>ID (λa0=>some a0)) e)
def Z2{R:Type}(a:af)(b:Int->Bool->ae R)(c:Int->yP->ae R):ae R:=
 bif a=bs [] then b 0 false else bif 18<(a.size:Int) then b 0 false else(Fe a).bind λr1=>bif !r1 then b 0 false else c 0 (a,0)
def Z3{R:Type}(a:Int)(b:yP)(c:Int->yP->ae R)(d:Int->ae R):ae R:=
 bif b.2<b.1.size then c (zW zI (zW zI (10*a)+zW zI (IntKind.i32.wrap ((((dp b.1 b.2).1:Nat):Int)-48)))) (b.1,b.2+(dp b.1 b.2).2) else d a
def IE{R:Type}(a:Int)(b:Int->Bool->ae R):ae R:=
 b a true
def Lp:Nat->Int->yP->ae Int
 |0,_,_=>none
 |k+1,v0,v1=>Z3 v0 v1 (λa0 a1=>Lp k a0 a1) (λa0=>some a0)
def Ff(a:af):ae (Int×Bool):=
 Z2 a (λa0 a1=>some (a0,a1)) (λa0 a1=>(Lp bE a0 a1).bind λe=>IE e (λa0 a1=>some (a0,a1)))
def Z6{R:Type}(a b:Int)(c:af->Bool->ae R)(d:Int->Nat->Int->Nat->(List Int)->ae R):ae R:=
 bif a<0 then c (bs []) false else bif b<1 then c (bs []) false else bif 18<b then c (bs []) false else bif b=b then bif 0<=b then bif b*1<=140737488355328 then d a b.toNat (zW zI (b-1)) b.toNat (aB b.toNat 0) else none else none else none
def Uh{R:Type}(a:Int)(b:Nat)(c:Int)(d:Nat)(e:(List Int))(f:Int->Nat->Int->Nat->(List Int)->ae R)(g:Int->Nat->Nat->(List Int)->ae R):ae R:=
 bif 0<=c then zd c b (bif bC (c.toNat+1) (ag e) then f (zW zI (dj a 10)) b (zW zI (c-1)) d (cK e c.toNat (zW zU (zW zI (48+eG a 10)))) else none) else g a b d e
def Z7{R:Type}(a:Int)(b c:Nat)(d:(List Int))(e:af->Bool->ae R):ae R:=
 bif 0<a then e (bs []) false else bif ak b (ag d) then e (strOf d) true else none
def Kc:Nat->Int->Nat->Int->Nat->(List Int)->ae (Int×Nat×Nat×(List Int))
 |0,_,_,_,_,_=>none
 |k+1,v0,v1,v2,v3,v4=>Uh v0 v1 v2 v3 v4 (λa0 a1 a2 a3 a4=>Kc k a0 a1 a2 a3 a4) (λa0 a1 a2 a3=>some (a0,a1,a2,a3))
def LQ(a b:Int):ae qT:=
 Z6 a b (λa0 a1=>some (a0,a1)) (λa0 a1 a2 a3 a4=>(Kc bE a0 a1 a2 a3 a4).bind λe=>Z7 e.1 e.2.1 e.2.2.1 e.2.2.2 (λa0 a1=>some (a0,a1)))
def Z4{R:Type}(a:af)(b:Int)(c:af->Bool->ae R):ae R:=
 bif a=bs [] then c (bs []) false else bif 999<(a.size:Int) then c (bs []) false else(Fe a).bind λr1=>bif !r1 then c (bs []) false else bif b<1 then c (bs []) false else bif 999<b then c (bs []) false else bif(a.size:Int)<=b then(strings_Repeat (bs [48]) (zW zI (b-(a.size:Int)))).bind λr2=>bif r2.size+a.size<=9223372036854775807 then c (r2++a) true else none else bif 0<=zW zI ((a.size:Int)-b) then bif zW zI ((a.size:Int)-b)<=(a.size:Int) then(Bh (a.extract 0 (zW zI ((a.size:Int)-b)).toNat) (bs [48])).bind λr3=>bif !decide (r3=bs []) then c (bs []) false else bif 0<=zW zI ((a.size:Int)-b) then bif zW zI ((a.size:Int)-b)<=(a.size:Int) then c (a.extract (zW zI ((a.size:Int)-b)).toNat a.size) true else none else none else none else none
def LP(a:af)(b:Int):ae qT:=
 Z4 a b (λa0 a1=>some (a0,a1))
def xg{R:Type}(a:Int)(b:Int->ae R):ae R:=
 bif a<1 then b 0 else b (zW zI (zW zI (dj a 2)+eG a 2))
def Q2(a:Int):ae Int:=
 xg a (λa0=>some a0)
def wX{R:Type}(a:af)(b:Int)(c:af->Int->Int->ae R)(d:af->Int->(List Int)->Int->Int->ae R):ae R:=
 bif b<0 then c (bs []) 1 0 else bif 999<b then c (bs []) 1 0 else(Q2 b).bind λr1=>bif(a.size:Int)<r1 then c (bs []) 2 (a.size:Int) else bif 0<=zW zI (b+1) then bif zW zI (b+1)*1<=140737488355328 then(Q2 b).bind λr2=>d a b [] r2 0 else none else none
def uF{R:Type}(a:af)(b:Int)(c:(List Int))(d e:Int)(f:Int->af->Int->Int->(List Int)->ae R)(g:af->Int->(List Int)->Int->Int->ae R)(h:Int->(List Int)->ae R):ae R:=
 bif e<d then zd e a.size (zd e a.size (bif e=0 then bif !decide (eG b 2=0) then bif !decide (aX (ze a e.toNat) (2^min ((4:Int)).toNat 8)=0) then f b (bs []) 4 0 c else bif 9<aX (ze a e.toNat) (2^min ((4:Int)).toNat 8) then f b (bs []) 3 e c else bif 9<dn .and .u8 (ze a e.toNat) 15 then f b (bs []) 3 e c else bif(ag c+ag ([(zW zU ((48:Int)+aX (ze a e.toNat) (2^min ((4:Int)).toNat 8))),(zW zU ((48:Int)+dn .and .u8 (ze a e.toNat) (15:Int)))]:List Int))*1<=140737488355328 then g a b (c++([(zW zU (48+aX (ze a e.toNat) (2^min ((4:Int)).toNat 8))),(zW zU (48+dn .and .u8 (ze a e.toNat) 15))]:List Int)) d (zW zI (e+1)) else none else bif 9<aX (ze a e.toNat) (2^min ((4:Int)).toNat 8) then f b (bs []) 3 e c else bif 9<dn .and .u8 (ze a e.toNat) 15 then f b (bs []) 3 e c else bif(ag c+ag ([(zW zU ((48:Int)+aX (ze a e.toNat) (2^min ((4:Int)).toNat 8))),(zW zU ((48:Int)+dn .and .u8 (ze a e.toNat) (15:Int)))]:List Int))*1<=140737488355328 then g a b (c++([(zW zU (48+aX (ze a e.toNat) (2^min ((4:Int)).toNat 8))),(zW zU (48+dn .and .u8 (ze a e.toNat) 15))]:List Int)) d (zW zI (e+1)) else none else bif 9<aX (ze a e.toNat) (2^min ((4:Int)).toNat 8) then f b (bs []) 3 e c else bif 9<dn .and .u8 (ze a e.toNat) 15 then f b (bs []) 3 e c else bif(ag c+ag ([(zW zU ((48:Int)+aX (ze a e.toNat) (2^min ((4:Int)).toNat 8))),(zW zU ((48:Int)+dn .and .u8 (ze a e.toNat) (15:Int)))]:List Int))*1<=140737488355328 then g a b (c++([(zW zU (48+aX (ze a e.toNat) (2^min ((4:Int)).toNat 8))),(zW zU (48+dn .and .u8 (ze a e.toNat) 15))]:List Int)) d (zW zI (e+1)) else none)) else h b c
def AG{R:Type}(a:Int)(b:af)(c d:Int)(e:(List Int))(f:af->Int->Int->ae R):ae R:=
 f b c d
def wY{R:Type}(a:Int)(b:(List Int))(c:af->Int->Int->ae R):ae R:=
 bif 0<=eG a 2 then bif eG a 2<=(((ag b):Nat):Int) then c (strOf (bk (eG a (2:Int)).toNat (aI (ag b) b))) 0 0 else none else none
def qv:Nat->af->Int->(List Int)->Int->Int->ae (Sum (Int×af×Int×Int×(List Int)) (Int×(List Int)))
 |0,_,_,_,_,_=>none
 |k+1,v0,v1,v2,v3,v4=>uF v0 v1 v2 v3 v4 (λa0 a1 a2 a3 a4=>some (.inl (a0,a1,a2,a3,a4))) (λa0 a1 a2 a3 a4=>qv k a0 a1 a2 a3 a4) (λa0 a1=>some (.inr (a0,a1)))
def Q0(a:af)(b:Int):ae Kq:=
 wX a b (λa0 a1 a2=>some (a0,a1,a2)) (λa0 a1 a2 a3 a4=>(qv bE a0 a1 a2 a3 a4).bind λe=>aA (λ(we:(Int×af×Int×Int×(List Int)))=>AG we.1 we.2.1 we.2.2.1 we.2.2.2.1 we.2.2.2.2 (λa0 a1 a2=>some (a0,a1,a2))) (λ(we:(Int×(List Int)))=>wY we.1 we.2 (λa0 a1 a2=>some (a0,a1,a2))) e)
def s6{R:Type}(a:af)(b:af->Bool->ae R)(c:af->(List Int)->Int->ae R):ae R:=
 bif 999<(a.size:Int) then b (bs []) false else(Fe a).bind λr1=>bif !r1 then b (bs []) false else bif !decide (eG (a.size:Int) 2=0) then bif(bs [48]).size+a.size<=9223372036854775807 then bif 0<=zW zI (dj ((bs [48]++a).size:Int) 2) then bif zW zI (dj ((bs [48]++a).size:Int) 2)*1<=140737488355328 then c (bs [48]++a) [] 0 else none else none else none else bif 0<=zW zI (dj (a.size:Int) 2) then bif zW zI (dj (a.size:Int) 2)*1<=140737488355328 then c a [] 0 else none else none
theorem adu{R S:Type}(F:R->ae S)(a)(b)(c):(s6 a b c).bind F=s6 a (λa0 a1=>(b a0 a1).bind F) (λa0 a1 a2=>(c a0 a1 a2).bind F):=by simp only[s6,cP]
def uI{R:Type}(a:af)(b:(List Int))(c:Int)(d:af->(List Int)->Int->ae R)(e:(List Int)->ae R):ae R:=
 bif c<(a.size:Int) then zd c a.size (zd (zW zI (c+1)) a.size (bif(ag b+ag ([(dn .or .u8 (zW zU (zW zU (ze a c.toNat-(48:Int))*2^min ((4:Int)).toNat 8)) (zW zU (ze a (zW zI (c+(1:Int))).toNat-(48:Int))))]:List Int))*1<=140737488355328 then d a (b++([(dn .or .u8 (zW zU (zW zU (ze a c.toNat-48)*2^min ((4:Int)).toNat 8)) (zW zU (ze a (zW zI (c+(1:Int))).toNat-48)))]:List Int)) (zW zI (c+2)) else none)) else e b
def A6{R:Type}(a:(List Int))(b:af->Bool->ae R):ae R:=
 b (strOf a) true
def rI:Nat->af->(List Int)->Int->ae (List Int)
 |0,_,_,_=>none
 |k+1,v0,v1,v2=>uI v0 v1 v2 (λa0 a1 a2=>rI k a0 a1 a2) (λa0=>some a0)
def Q1(a:af):ae qT:=
 s6 a (λa0 a1=>some (a0,a1)) (λa0 a1 a2=>(rI bE a0 a1 a2).bind λe=>A6 e (λa0 a1=>some (a0,a1)))
def xm{R:Type}(a:Int)(b:Int->ae R):ae R:=
 bif a<0 then b 0 else bif 65535<a then b 0 else bif 255<a then b (zW zI (zW zI (zW zI (0+1)+1)+1)) else bif 127<a then b (zW zI (zW zI (0+1)+1)) else b (zW zI (0+1))
def Q4(a:Int):ae Int:=
 xm a (λa0=>some a0)
def s7{R:Type}(a:af)(b:Int)(c:Int->Int->Int->ae R)(d:af->Int->Int->Int->Int->Int->ae R):ae R:=
 bif b<0 then c 0 0 1 else bif(a.size:Int)<b then c 0 0 1 else bif b=(a.size:Int) then c 0 0 2 else zd b a.size (bif 127<zW zI (ze a b.toNat) then bif zW zI (ze a b.toNat)=128 then c 0 0 14 else bif 130<zW zI (ze a b.toNat) then c 0 0 14 else bif zW zI ((a.size:Int)-zW zI (b+1))<zW zI (zW zI (ze a b.toNat)-128) then c 0 0 2 else d a (zW zI (b+1)) 0 (zW zI (zW zI (ze a b.toNat)-128)) (zW zI (zW zI (ze a b.toNat)-128)) 0 else bif zW zI ((a.size:Int)-zW zI (b+1))<0 then c 0 0 2 else d a (zW zI (b+1)) (zW zI (ze a b.toNat)) 0 0 0)
theorem adv{R S:Type}(F:R->ae S)(a)(b)(c)(d):(s7 a b c d).bind F=s7 a b (λa0 a1 a2=>(c a0 a1 a2).bind F) (λa0 a1 a2 a3 a4 a5=>(d a0 a1 a2 a3 a4 a5).bind F):=by simp only[s7,cP]
def s8{R:Type}(a:af)(b c d e f:Int)(g:af->Int->Int->Int->Int->Int->ae R)(h:Int->Int->Int->ae R):ae R:=
 bif f<e then zd (zW zI (b+f)) a.size (g a b (dn .or .i64 (zW zI (c*2^min ((8:Int)).toNat 64)) (zW zI (ze a (zW zI (b+f)).toNat))) d e (zW zI (f+1))) else h b c d
def s9{R:Type}(a b c:Int)(d:Int->Int->Int->ae R):ae R:=
 (Q4 b).bind λr1=>bif !decide (r1=zW zI (c+1)) then d 0 0 14 else d b (zW zI (a+c)) 0
def nr:Nat->af->Int->Int->Int->Int->Int->ae qw
 |0,_,_,_,_,_,_=>none
 |k+1,v0,v1,v2,v3,v4,v5=>s8 v0 v1 v2 v3 v4 v5 (λa0 a1 a2 a3 a4 a5=>nr k a0 a1 a2 a3 a4 a5) (λa0 a1 a2=>some (a0,a1,a2))
def Q3(a:af)(b:Int):ae qw:=
 s7 a b (λa0 a1 a2=>some (a0,a1,a2)) (λa0 a1 a2 a3 a4 a5=>(nr bE a0 a1 a2 a3 a4 a5).bind λe=>s9 e.1 e.2.1 e.2.2 (λa0 a1 a2=>some (a0,a1,a2)))
abbrev zB0:ByteArray:=bs ([0,1,2,2,3,3,3,3,4,4,4,4,4,4,4,4]++List.replicate 16 5++List.replicate 32 6++List.replicate 64 7++List.replicate 128 8)
def zwn{R:Type}(a:Int)(b:Int->ae R):ae R:=
 bif 4294967296<=a then bif 65536<=aX a (2^min ((32:Int)).toNat 64) then bif 256<=aX (aX a (2^min ((32:Int)).toNat 64)) (2^min ((16:Int)).toNat 64) then zd (zW zU (aX (aX (aX a (2^min ((32:Int)).toNat 64)) (2^min ((16:Int)).toNat 64)) (2^min ((8:Int)).toNat 64))) zB0.size (b (zW zI (zW zI (zW zI (32+16)+8)+zW zI (ze zB0 (zW zU (aX (aX (aX a (2^min ((32:Int)).toNat 64)) (2^min ((16:Int)).toNat 64)) (2^min ((8:Int)).toNat 64))).toNat)))) else zd (zW zU (aX (aX a (2^min ((32:Int)).toNat 64)) (2^min ((16:Int)).toNat 64))) zB0.size (b (zW zI (zW zI (32+16)+zW zI (ze zB0 (zW zU (aX (aX a (2^min ((32:Int)).toNat 64)) (2^min ((16:Int)).toNat 64))).toNat)))) else bif 256<=aX a (2^min ((32:Int)).toNat 64) then zd (zW zU (aX (aX a (2^min ((32:Int)).toNat 64)) (2^min ((8:Int)).toNat 64))) zB0.size (b (zW zI (zW zI (32+8)+zW zI (ze zB0 (zW zU (aX (aX a (2^min ((32:Int)).toNat 64)) (2^min ((8:Int)).toNat 64))).toNat)))) else zd (zW zU (aX a (2^min ((32:Int)).toNat 64))) zB0.size (b (zW zI (32+zW zI (ze zB0 (zW zU (aX a (2^min ((32:Int)).toNat 64))).toNat)))) else bif 65536<=a then bif 256<=aX a (2^min ((16:Int)).toNat 64) then zd (zW zU (aX (aX a (2^min ((16:Int)).toNat 64)) (2^min ((8:Int)).toNat 64))) zB0.size (b (zW zI (zW zI (zW zI (0+16)+8)+zW zI (ze zB0 (zW zU (aX (aX a (2^min ((16:Int)).toNat 64)) (2^min ((8:Int)).toNat 64))).toNat)))) else zd (zW zU (aX a (2^min ((16:Int)).toNat 64))) zB0.size (b (zW zI (zW zI (0+16)+zW zI (ze zB0 (zW zU (aX a (2^min ((16:Int)).toNat 64))).toNat)))) else bif 256<=a then zd (zW zU (aX a (2^min ((8:Int)).toNat 64))) zB0.size (b (zW zI (zW zI (0+8)+zW zI (ze zB0 (zW zU (aX a (2^min ((8:Int)).toNat 64))).toNat)))) else zd (zW zU a) zB0.size (b (zW zI (0+zW zI (ze zB0 (zW zU a).toNat))))
def AY(a:Int):ae Int:=
 zwn a (λa0=>some a0)
def Xj{R:Type}(a:Int)(b:Int->ae R):ae R:=
 (AY a).bind λr1=>b (zW zI (64-r1))
def uH(a:Int):ae Int:=
 Xj a (λa0=>some a0)
def zry{R:Type}(a:Int)(b:dV->ae R):ae R:=
 bif a<1 then b (0,0,()) else bif 128<a then b (0,0,()) else bif a<=64 then bif zW zI (64-a)<0 then none else b (IntKind.u64.wrap (1*2^min (zW zI (64-a)).toNat 64),0,()) else bif zW zI (128-a)<0 then none else b (0,IntKind.u64.wrap (1*2^min (zW zI (128-a)).toNat 64),())
def Km(a:Int):ae dV:=
 zry a (λa0=>some a0)
def zru{R:Type}(a b:dV)(c:dV->ae R):ae R:=
 c (dn .or .u64 a.1 b.1,dn .or .u64 a.2.1 b.2.1,())
def Bn(a b:dV):ae dV:=
 zru a b (λa0=>some a0)
def zrx{R:Type}(a:dV)(b:Int)(c:dV->ae R):ae R:=
 (Km b).bind λr1=>(Bn a r1).bind λr2=>c r2
def Fi(a:dV)(b:Int):ae dV:=
 zrx a b (λa0=>some a0)
def Z9{R:Type}(a:(List Int))(b:(List Int)->Int->Int->dV->dV->ae R):ae R:=
 b a ((ag a):Int) 0 (0,0,()) (0,0,())
def Ui{R:Type}(a:(List Int))(b c:Int)(d e:dV)(f:(List Int)->Int->Int->dV->dV->ae R)(g:dV->dV->ae R):ae R:=
 bif c<b then zd c (ag a) ((Fi e (ah a c.toNat (0:Int))).bind λr1=>f a b (zW zI (c+1)) d r1) else g d e
def zrt{R:Type}(a b:dV)(c:dV->ae R):ae R:=
 c b
def Hl:Nat->(List Int)->Int->Int->dV->dV->ae (dV×dV)
 |0,_,_,_,_,_=>none
 |k+1,v0,v1,v2,v3,v4=>Ui v0 v1 v2 v3 v4 (λa0 a1 a2 a3 a4=>Hl k a0 a1 a2 a3 a4) (λa0 a1=>some (a0,a1))
def CC(a:(List Int)):ae dV:=
 Z9 a (λa0 a1 a2 a3 a4=>(Hl bE a0 a1 a2 a3 a4).bind λe=>zrt e.1 e.2 (λa0=>some a0))
def Uj{R:Type}(a b:dV)(c:dV->ae R):ae R:=
 c (dn .and .u64 a.1 b.1,dn .and .u64 a.2.1 b.2.1,())
def Ai(a b:dV):ae dV:=
 Uj a b (λa0=>some a0)
def IF{R:Type}(a b:Int)(c:dV->ae R):ae R:=
 c (a,b,())
def UK(a b:Int):ae dV:=
 IF a b (λa0=>some a0)
def zrw{R:Type}(a:dV)(b:Int)(c:Int->ae R):ae R:=
 bif(if b<0 then 0 else b)<64 then bif(if b<0 then 0 else b)<0 then none else bif !decide (IntKind.u64.wrap (a.1*2^min (if b<0 then 0 else b).toNat 64)=0) then(uH (IntKind.u64.wrap (a.1*2^min (if b<0 then 0 else b).toNat 64))).bind λr1=>c (zW zI (zW zI ((if b<0 then 0 else b)+r1)+1)) else bif(if 64<zW zI (64-64) then 64 else zW zI (64-64))<0 then none else bif !decide (IntKind.u64.wrap (a.2.1*2^min (if 64<zW zI (64-64) then 64 else zW zI (64-(64:Int))).toNat 64)=0) then(uH (IntKind.u64.wrap (a.2.1*2^min (if 64<zW zI (64-64) then 64 else zW zI (64-(64:Int))).toNat 64))).bind λr2=>c (zW zI (zW zI (64+r2)+1)) else c 0 else bif(if 64<zW zI ((if b<0 then 0 else b)-64) then 64 else zW zI ((if b<0 then 0 else b)-64))<0 then none else bif !decide (IntKind.u64.wrap (a.2.1*2^min (if 64<zW zI ((if b<0 then 0 else b)-64) then 64 else zW zI ((if b<0 then 0 else b)-(64:Int))).toNat 64)=0) then(uH (IntKind.u64.wrap (a.2.1*2^min (if 64<zW zI ((if b<0 then 0 else b)-64) then 64 else zW zI ((if b<0 then 0 else b)-(64:Int))).toNat 64))).bind λr3=>c (zW zI (zW zI ((if b<0 then 0 else b)+r3)+1)) else c 0
def Kl(a:dV)(b:Int):ae Int:=
 zrw a b (λa0=>some a0)
def zrv{R:Type}(a:dV)(b:Int)(c:Bool->ae R):ae R:=
 (Km b).bind λr1=>(Ai a r1).bind λr2=>c (!(decide (r2.1=0)&&(decide (r2.2.1=0)&&true)))
def LU(a:dV)(b:Int):ae Bool:=
 zrv a b (λa0=>some a0)
def IG{R:Type}(a:dV)(b:Int->Int->ae R):ae R:=
 b a.1 a.2.1
def UL(a:dV):ae (Int×Int):=
 IG a (λa0 a1=>some (a0,a1))
def zwj{R:Type}(a:Int)(b:Int->Bool->ae R):ae R:=
 bif 48<=a then bif a<=57 then b (zW zI (zW zU (a-48))) true else bif 65<=a then bif a<=70 then b (zW zI (zW zI (zW zU (a-65))+10)) true else b 0 false else b 0 false else bif 65<=a then bif a<=70 then b (zW zI (zW zI (zW zU (a-65))+10)) true else b 0 false else b 0 false
def AX(a:Int):ae (Int×Bool):=
 zwj a (λa0 a1=>some (a0,a1))
def Xf{R:Type}(a:af)(b:af->(List Int)->Int->Int->ae R):ae R:=
 bif 0<=zW zI (dj (a.size:Int) 2) then bif zW zI (dj (a.size:Int) 2)*1<=140737488355328 then b a [] 0 0 else none else none
def TA{R:Type}(a:af)(b:(List Int))(c d:Int)(e:af->af->Int->Bool->(List Int)->ae R)(f:af->(List Int)->Int->Int->ae R)(g:af->(List Int)->ae R):ae R:=
 bif d<(a.size:Int) then zd d a.size ((AX (ze a d.toNat)).bind λr1=>bif !r1.2 then e a (bs []) d false b else bif eG d 2=0 then f a b r1.1 (zW zI (d+1)) else bif(ag b+ag ([(zW zU (dn .or .i64 (zW zI (c*2^min ((4:Int)).toNat 64)) r1.1))]:List Int))*1<=140737488355328 then f a (b++([(zW zU (dn .or .i64 (zW zI (c*2^min ((4:Int)).toNat 64)) r1.1))]:List Int)) c (zW zI (d+1)) else none) else g a b
def zwl{R:Type}(a b:af)(c:Int)(d:Bool)(e:(List Int))(f:af->Int->Bool->ae R):ae R:=
 f b c d
def Xg{R:Type}(a:af)(b:(List Int))(c:af->Int->Bool->ae R):ae R:=
 bif !decide (eG (a.size:Int) 2=0) then c (bs []) (a.size:Int) false else c (strOf b) 0 true
def JU:Nat->af->(List Int)->Int->Int->ae (Sum (af×af×Int×Bool×(List Int)) (af×(List Int)))
 |0,_,_,_,_=>none
 |k+1,v0,v1,v2,v3=>TA v0 v1 v2 v3 (λa0 a1 a2 a3 a4=>some (.inl (a0,a1,a2,a3,a4))) (λa0 a1 a2 a3=>JU k a0 a1 a2 a3) (λa0 a1=>some (.inr (a0,a1)))
def pj(a:af):ae (af×Int×Bool):=
 Xf a (λa0 a1 a2 a3=>(JU bE a0 a1 a2 a3).bind λe=>aA (λ(we:(af×af×Int×Bool×(List Int)))=>zwl we.1 we.2.1 we.2.2.1 we.2.2.2.1 we.2.2.2.2 (λa0 a1 a2=>some (a0,a1,a2))) (λ(we:(af×(List Int)))=>Xg we.1 we.2 (λa0 a1 a2=>some (a0,a1,a2))) e)
def Xi{R:Type}(a:af)(b:af->(List Int)->Int->ae R):ae R:=
 bif 0<=zW zI (2*(a.size:Int)) then bif zW zI (2*(a.size:Int))*1<=140737488355328 then b a [] 0 else none else none
def TB{R:Type}(a:af)(b:(List Int))(c:Int)(d:af->(List Int)->Int->ae R)(e:(List Int)->ae R):ae R:=
 bif c<(a.size:Int) then zd c a.size (zd (aX (ze a c.toNat) (2^min ((4:Int)).toNat 8)) (bs [48,49,50,51,52,53,54,55,56,57,65,66,67,68,69,70]).size (zd c a.size (zd (dn .and .u8 (ze a c.toNat) 15) (bs [48,49,50,51,52,53,54,55,56,57,65,66,67,68,69,70]).size (bif(ag b+ag ([(ze (bs [48,49,50,51,52,53,54,55,56,57,65,66,67,68,69,70]) (aX (ze a c.toNat) (2^min ((4:Int)).toNat 8)).toNat),(ze (bs [48,49,50,51,52,53,54,55,56,57,65,66,67,68,69,70]) (dn .and .u8 (ze a c.toNat) (15:Int)).toNat)]:List Int))*1<=140737488355328 then d a (b++([(ze (bs [48,49,50,51,52,53,54,55,56,57,65,66,67,68,69,70]) (aX (ze a c.toNat) (2^min ((4:Int)).toNat 8)).toNat),(ze (bs [48,49,50,51,52,53,54,55,56,57,65,66,67,68,69,70]) (dn .and .u8 (ze a c.toNat) (15:Int)).toNat)]:List Int)) (zW zI (c+1)) else none)))) else e b
def zwm{R:Type}(a:(List Int))(b:af->ae R):ae R:=
 b (strOf a)
def JV:Nat->af->(List Int)->Int->ae (List Int)
 |0,_,_,_=>none
 |k+1,v0,v1,v2=>TB v0 v1 v2 (λa0 a1 a2=>JV k a0 a1 a2) (λa0=>some a0)
def rH(a:af):ae af:=
 Xi a (λa0 a1 a2=>(JV bE a0 a1 a2).bind λe=>zwm e (λa0=>some a0))
def uP{R:Type}(a:Int)(b:Bool->ae R):ae R:=
 bif a=1 then b true else b (decide (a=2))
def Q9(a:Int):ae Bool:=
 uP a (λa0=>some a0)
def Zg{R:Type}(a:Int)(b:af)(c:Int)(d:(List Int)->Int->Int->ae R):ae R:=
 bif a=1 then bif zW zI ((b.size:Int)-c)<zW zI (8*2) then d (aB 8 0) 0 2 else bif 0<=zW zI (c+zW zI (8*2)) then bif zW zI (c+zW zI (8*2))<=(b.size:Int) then bif 0<=c then bif c<=(((zW zI (c+zW zI (8*(2:Int)))).toNat:Nat):Int) then bif a=1 then(pj (b.extract c.toNat (zW zI (c+zW zI (8*(2:Int)))).toNat)).bind λr1=>bif !r1.2.2 then d (aB 8 0) 0 3 else bif ak 8 (ag (aB 8 (0:Int))) then bif ak 8 (ag (gQ (aB 8 (0:Int)) (aI 8 (vT r1.1)) 0)) then d (gQ (aB 8 0) (aI 8 (vT r1.1)) 0) (zW zI (c+zW zI (8*2))) 0 else none else none else bif ak 8 (ag (aB 8 (0:Int))) then bif ak 8 (ag (gQ (aB 8 (0:Int)) (aI 8 (vT (b.extract c.toNat (zW zI (c+zW zI ((8:Int)*(2:Int)))).toNat))) 0)) then d (gQ (aB 8 0) (aI 8 (vT (b.extract c.toNat (zW zI (c+zW zI (8*(2:Int)))).toNat))) 0) (zW zI (c+zW zI (8*2))) 0 else none else none else none else none else none else none else bif zW zI ((b.size:Int)-c)<8 then d (aB 8 0) 0 2 else bif 0<=zW zI (c+8) then bif zW zI (c+8)<=(b.size:Int) then bif 0<=c then bif c<=(((zW zI (c+(8:Int))).toNat:Nat):Int) then bif a=1 then(pj (b.extract c.toNat (zW zI (c+(8:Int))).toNat)).bind λr2=>bif !r2.2.2 then d (aB 8 0) 0 3 else bif ak 8 (ag (aB 8 (0:Int))) then bif ak 8 (ag (gQ (aB 8 (0:Int)) (aI 8 (vT r2.1)) 0)) then d (gQ (aB 8 0) (aI 8 (vT r2.1)) 0) (zW zI (c+8)) 0 else none else none else bif ak 8 (ag (aB 8 (0:Int))) then bif ak 8 (ag (gQ (aB 8 (0:Int)) (aI 8 (vT (b.extract c.toNat (zW zI (c+(8:Int))).toNat))) 0)) then d (gQ (aB 8 0) (aI 8 (vT (b.extract c.toNat (zW zI (c+(8:Int))).toNat))) 0) (zW zI (c+8)) 0 else none else none else none else none else none else none
def Kk(a:Int)(b:af)(c:Int):ae ((List Int)×Int×Int):=
 Zg a b c (λa0 a1 a2=>some (a0,a1,a2))
def xB{R:Type}(a:(List Int))(b:Int->(List Int)->Int->ae R):ae R:=
 b 0 a 0
def uM{R:Type}(a:Int)(b:(List Int))(c:Int)(d:Int->(List Int)->Int->ae R)(e:Int->ae R):ae R:=
 bif c<8 then zd c 8 (d (dn .or .u64 (IntKind.u64.wrap (a*2^min ((8:Int)).toNat 64)) (IntKind.u64.wrap (ah b c.toNat 0))) b (zW zI (c+1))) else e a
def Bq{R:Type}(a:Int)(b:Int->ae R):ae R:=
 b a
def rL:Nat->Int->(List Int)->Int->ae Int
 |0,_,_,_=>none
 |k+1,v0,v1,v2=>uM v0 v1 v2 (λa0 a1 a2=>rL k a0 a1 a2) (λa0=>some a0)
def Q7(a:(List Int)):ae Int:=
 xB a (λa0 a1 a2=>(rL bE a0 a1 a2).bind λe=>Bq e (λa0=>some a0))
def xq{R:Type}(a:Int)(b:af)(c:Int)(d:dV->Int->Int->ae R):ae R:=
 (Q9 a).bind λr1=>bif !r1 then d (0,0,()) 0 1 else bif c<0 then d (0,0,()) 0 1 else bif(b.size:Int)<c then d (0,0,()) 0 1 else(Kk a b c).bind λr2=>bif !decide (r2.2.2=0) then d (0,0,()) 0 r2.2.2 else(Q7 r2.1).bind λr3=>bif dn .and .u64 r3 9223372036854775808=0 then(UK r3 (0:Int)).bind λr4=>d r4 r2.2.1 0 else(Kk a b r2.2.1).bind λr5=>bif !decide (r5.2.2=0) then d (0,0,()) 0 r5.2.2 else bif r5.1=([0,0,0,0,0,0,0,0]:List Int) then d (0,0,()) 0 8 else(Q7 r5.1).bind λr6=>(UK (dn .andNot .u64 r3 9223372036854775808) r6).bind λr7=>d r7 r5.2.1 0
def Q5(a:Int)(b:af)(c:Int):ae (dV×Int×Int):=
 xq a b c (λa0 a1 a2=>some (a0,a1,a2))
def xE{R:Type}(a:Int)(b:Int->Int->(List Int)->(List Int)->ae R):ae R:=
 b a 0 (aB 8 0) (aB 8 0)
def uN{R:Type}(a b:Int)(c d:(List Int))(e:Int->Int->(List Int)->(List Int)->ae R)(f:(List Int)->(List Int)->ae R):ae R:=
 bif b<8 then bif zW zI (8*zW zI (7-b))<0 then none else zd b 8 (e a (zW zI (b+1)) c (cK d b.toNat (zW zU (aX a (2^min (zW zI (8*zW zI (7-b))).toNat 64))))) else f c d
def xF{R:Type}(a b:(List Int))(c:(List Int)->ae R):ae R:=
 c b
def pK:Nat->Int->Int->(List Int)->(List Int)->ae ((List Int)×(List Int))
 |0,_,_,_,_=>none
 |k+1,v0,v1,v2,v3=>uN v0 v1 v2 v3 (λa0 a1 a2 a3=>pK k a0 a1 a2 a3) (λa0 a1=>some (a0,a1))
def Q8(a:Int):ae (List Int):=
 xE a (λa0 a1 a2 a3=>(pK bE a0 a1 a2 a3).bind λe=>xF e.1 e.2 (λa0=>some a0))
def xu{R:Type}(a:Int)(b:dV)(c:af->Int->ae R):ae R:=
 (Q9 a).bind λr1=>bif !r1 then c (bs []) 1 else(LU b (1:Int)).bind λr2=>bif r2 then c (bs []) 1 else(UL b).bind λr3=>(Q8 r3.2).bind λr4=>bif !decide (r4=([0,0,0,0,0,0,0,0]:List Int)) then bif ak 8 (ag r4) then(Q8 (dn .or .u64 r3.1 (9223372036854775808:Int))).bind λr5=>bif ak 8 (ag r5) then bif(strOf r5).size+(strOf r4).size<=9223372036854775807 then bif a=1 then(rH (strOf r5++strOf r4)).bind λr6=>c r6 0 else c (strOf r5++strOf r4) 0 else none else none else none else(Q8 r3.1).bind λr7=>bif ak 8 (ag r7) then bif(strOf r7).size+(bs []).size<=9223372036854775807 then bif a=1 then(rH (strOf r7++bs [])).bind λr8=>c r8 0 else c (strOf r7++bs []) 0 else none else none
def Q6(a:Int)(b:dV):ae M9:=
 xu a b (λa0 a1=>some (a0,a1))
def TH{R:Type}(a:Int)(b:Int->ae R):ae R:=
 bif a=2 then b 2 else bif a=3 then b 3 else b 0
def rJ(a:Int):ae Int:=
 TH a (λa0=>some a0)
def zx1{R:Type}(a:Int)(b:Int->Int->Int->ae R):ae R:=
 (rJ a).bind λr1=>b 0 r1 0
def zx2{R:Type}(a b c:Int)(d:Int->Int->Int->ae R)(e:Int->ae R):ae R:=
 bif c<b then d (zW zI (zW zI (10*a)+9)) b (zW zI (c+1)) else e a
def zx3{R:Type}(a:Int)(b:Int->ae R):ae R:=
 b a
def XA:Nat->Int->Int->Int->ae Int
 |0,_,_,_=>none
 |k+1,v0,v1,v2=>zx2 v0 v1 v2 (λa0 a1 a2=>XA k a0 a1 a2) (λa0=>some a0)
def yH(a:Int):ae Int:=
 zx1 a (λa0 a1 a2=>(XA bE a0 a1 a2).bind λe=>zx3 e (λa0=>some a0))
def TG{R:Type}(a b:Int)(c:Bool->ae R):ae R:=
 bif a=1 then(rJ b).bind λr1=>c (decide (0<r1)) else bif a=2 then(rJ b).bind λr2=>c (decide (0<r2)) else c false
def yJ(a b:Int):ae Bool:=
 TG a b (λa0=>some a0)
def Xy{R:Type}(a b:Int)(c:af)(d:Int)(e:Int->Int->Int->ae R):ae R:=
 (yJ a b).bind λr1=>bif !r1 then e 0 0 1 else bif d<0 then e 0 0 1 else bif(c.size:Int)<d then e 0 0 1 else(rJ b).bind λr2=>bif a=2 then(Q2 r2).bind λr3=>bif zW zI ((c.size:Int)-d)<r3 then e 0 0 2 else bif 0<=zW zI (d+r3) then bif zW zI (d+r3)<=(c.size:Int) then bif 0<=d then bif d<=(((zW zI (d+r3)).toNat:Nat):Int) then bif a=2 then(rJ b).bind λr4=>(Q0 (c.extract d.toNat (zW zI (d+r3)).toNat) r4).bind λr5=>bif !decide (r5.2.1=0) then e 0 0 3 else(Ff r5.1).bind λr6=>bif !r6.2 then e 0 0 3 else e r6.1 (zW zI (d+r3)) 0 else(Ff (c.extract d.toNat (zW zI (d+r3)).toNat)).bind λr7=>bif !r7.2 then e 0 0 3 else e r7.1 (zW zI (d+r3)) 0 else none else none else none else none else bif zW zI ((c.size:Int)-d)<r2 then e 0 0 2 else bif 0<=zW zI (d+r2) then bif zW zI (d+r2)<=(c.size:Int) then bif 0<=d then bif d<=(((zW zI (d+r2)).toNat:Nat):Int) then bif a=2 then(rJ b).bind λr8=>(Q0 (c.extract d.toNat (zW zI (d+r2)).toNat) r8).bind λr9=>bif !decide (r9.2.1=0) then e 0 0 3 else(Ff r9.1).bind λum=>bif !um.2 then e 0 0 3 else e um.1 (zW zI (d+r2)) 0 else(Ff (c.extract d.toNat (zW zI (d+r2)).toNat)).bind λvC=>bif !vC.2 then e 0 0 3 else e vC.1 (zW zI (d+r2)) 0 else none else none else none else none
def A5(a b:Int)(c:af)(d:Int):ae qw:=
 Xy a b c d (λa0 a1 a2=>some (a0,a1,a2))
def XB{R:Type}(a b c:Int)(d:af->Int->ae R):ae R:=
 (yJ a b).bind λr1=>bif !r1 then d (bs []) 1 else(rJ b).bind λr2=>(LQ c r2).bind λr3=>bif !r3.2 then d (bs []) 5 else bif a=2 then(Q1 r3.1).bind λr4=>d r4.1 0 else d r3.1 0
def yI(a b c:Int):ae M9:=
 XB a b c (λa0 a1=>some (a0,a1))
def ZF{R:Type}(a:Int)(b:Int->ae R):ae R:=
 bif a=1 then b 1 else bif a=2 then b 2 else bif a=3 then b 3 else bif a=4 then b 7 else bif a=5 then b 15 else bif a=6 then b 15 else b 0
def Fb(a:Int):ae Int:=
 ZF a (λa0=>some a0)
def Zy{R:Type}(a:Int)(b:Bool->ae R):ae R:=
 (Fb a).bind λr1=>b (!decide (r1=0))
def Hw(a:Int):ae Bool:=
 Zy a (λa0=>some a0)
def Iv{R:Type}(a:Int)(b:Int->ae R):ae R:=
 bif 48<=a then bif a<=57 then b 1 else bif 65<=a then bif a<=90 then b 2 else bif 97<=a then bif a<=122 then b 2 else bif 32<=a then bif a<=126 then b 4 else b 8 else b 8 else bif 32<=a then bif a<=126 then b 4 else b 8 else b 8 else bif 97<=a then bif a<=122 then b 2 else bif 32<=a then bif a<=126 then b 4 else b 8 else b 8 else bif 32<=a then bif a<=126 then b 4 else b 8 else b 8 else bif 65<=a then bif a<=90 then b 2 else bif 97<=a then bif a<=122 then b 2 else bif 32<=a then bif a<=126 then b 4 else b 8 else b 8 else bif 32<=a then bif a<=126 then b 4 else b 8 else b 8 else bif 97<=a then bif a<=122 then b 2 else bif 32<=a then bif a<=126 then b 4 else b 8 else b 8 else bif 32<=a then bif a<=126 then b 4 else b 8 else b 8
def Hx(a:Int):ae Int:=
 Iv a (λa0=>some a0)
def Zv{R:Type}(a:Int)(b:af)(c:af->Int->Int->ae R):ae R:=
 (Fb a).bind λr1=>c b r1 0
def Ud{R:Type}(a:af)(b c:Int)(d:Int->ae R)(e:af->Int->Int->ae R)(f:ae R):ae R:=
 bif c<(a.size:Int) then zd c a.size ((Hx (ze a c.toNat)).bind λr2=>bif dn .and .i64 b r2=0 then d c else e a b (zW zI (c+1))) else f
def Is{R:Type}(a:Int)(b:Int->ae R):ae R:=
 b a
def Iu{R:Type}(a:Int->ae R):ae R:=
 a (-1:Int)
def J7:Nat->af->Int->Int->ae (Sum Int Unit)
 |0,_,_,_=>none
 |k+1,v0,v1,v2=>Ud v0 v1 v2 (λa0=>some (.inl a0)) (λa0 a1 a2=>J7 k a0 a1 a2) (some (.inr ()))
def LK(a:Int)(b:af):ae Int:=
 Zv a b (λa0 a1 a2=>(J7 bE a0 a1 a2).bind λe=>aA (λ(we:Int)=>Is we (λa0=>some a0)) (λ(we:Unit)=>Iu (λa0=>some a0)) e)
def Zz{R:Type}(a b:Int)(c:Bool->ae R):ae R:=
 (Hw a).bind λr1=>bif r1 then(Hw b).bind λr2=>bif r2 then(Fb b).bind λr3=>(Fb a).bind λr4=>c (decide (dn .andNot .i64 r3 r4=0)) else c false else c false
def LL(a b:Int):ae Bool:=
 Zz a b (λa0=>some a0)
def zy7{R:Type}(a:Int)(b:Bool->ae R):ae R:=
 bif 0<a then bif a<=255 then b (decide (dn .and .i64 a 32=0)) else b false else b false
def wA(a:Int):ae Bool:=
 zy7 a (λa0=>some a0)
def Yy{R:Type}(a:Int)(b:Bool->ae R):ae R:=
 bif a<=255 then(wA a).bind λr1=>bif r1 then b (!decide (dn .and .i64 a 31=31)) else b false else bif a<=65535 then(wA (aX a (2^min ((8:Int)).toNat 64))).bind λr2=>bif r2 then bif dn .and .i64 (aX a (2^min ((8:Int)).toNat 64)) 31=31 then bif 1<=dn .and .i64 a 255 then b (decide (dn .and .i64 a 255<=127)) else b false else b false else b false else b false
def Bj(a:Int):ae Bool:=
 Yy a (λa0=>some a0)
def Yx{R:Type}(a:af)(b:Int)(c:Int->Int->Int->ae R):ae R:=
 bif b<0 then c 0 0 1 else bif(a.size:Int)<b then c 0 0 1 else bif b=(a.size:Int) then c 0 0 2 else zd b a.size ((wA (zW zI (ze a b.toNat))).bind λr1=>bif !r1 then c 0 0 13 else bif !decide (dn .and .i64 (zW zI (ze a b.toNat)) 31=31) then c (zW zI (ze a b.toNat)) (zW zI (b+1)) 0 else bif zW zI (b+1)=(a.size:Int) then c 0 0 2 else zd (zW zI (b+1)) a.size ((Bj (dn .or .i64 (zW zI (zW zI (ze a b.toNat)*2^min ((8:Int)).toNat 64)) (zW zI (ze a (zW zI (b+(1:Int))).toNat)))).bind λr2=>bif !r2 then c 0 0 13 else c (dn .or .i64 (zW zI (zW zI (ze a b.toNat)*2^min ((8:Int)).toNat 64)) (zW zI (ze a (zW zI (b+(1:Int))).toNat))) (zW zI (b+2)) 0))
def Bi(a:af)(b:Int):ae qw:=
 Yx a b (λa0 a1 a2=>some (a0,a1,a2))
def YA{R:Type}(a:af)(b:af->cQ->Int->Na->ae R):ae R:=
 b a [] 0 []
def YB{R:Type}(a:af)(b:cQ)(c:Int)(d:Na)(e:cQ->Int->Int->cQ->ae R)(f:af->cQ->Int->Na->ae R)(g:cQ->ae R):ae R:=
 bif c<(a.size:Int) then(Bi a c).bind λr1=>bif !decide (r1.2.2=(0:Int)) then e ([]:List eS) r1.2.2 c b else(Q3 a r1.2.1).bind λr2=>bif !decide (r2.2.2=(0:Int)) then e ([]:List eS) r2.2.2 r1.2.1 b else bif zW zI ((a.size:Int)-r2.2.1)<r2.1 then e ([]:List eS) (2:Int) (a.size:Int) b else bif nB (oo (.int .i64)) false d r1.1 then e ([]:List eS) (10:Int) c b else bif nC (oo (.int .i64)) d r1.1 then none else bif(0:Int)<=zW zI (r2.2.1+r2.1) then bif zW zI (r2.2.1+r2.1)<=((a.size:Nat):Int) then bif(0:Int)<=r2.2.1 then bif r2.2.1<=(((zW zI (r2.2.1+r2.1)).toNat:Nat):Int) then bif(ag b+ag ([(r1.1,a.extract r2.2.1.toNat (zW zI (r2.2.1+r2.1)).toNat,())]:List eS))*24<=140737488355328 then f a (b++([(r1.1,a.extract r2.2.1.toNat (zW zI (r2.2.1+r2.1)).toNat,())]:List eS)) (zW zI (r2.2.1+r2.1)) (d++ [(r1.1,true)]) else none else none else none else none else none else g b
def zy9{R:Type}(a:cQ)(b c:Int)(d:cQ)(e:cQ->Int->Int->ae R):ae R:=
 e a b c
def zya{R:Type}(a:cQ)(b:cQ->Int->Int->ae R):ae R:=
 b a 0 0
def Le:Nat->af->cQ->Int->Na->ae (Sum yR cQ)
 |0,_,_,_,_=>none
 |k+1,v0,v1,v2,v3=>YB v0 v1 v2 v3 (λa0 a1 a2 a3=>some (.inl (a0,a1,a2,a3))) (λa0 a1 a2 a3=>Le k a0 a1 a2 a3) (λa0=>some (.inr a0))
def Bk(a:af):ae (Sum qS qS):=
 YA a (λa0 a1 a2 a3=>(Le bE a0 a1 a2 a3).bind λe=>aA (λ(we:yR)=>zy9 we.1 we.2.1 we.2.2.1 we.2.2.2 (λa0 a1 a2=>some (.inl (a0,a1,a2)))) (λ(we:cQ)=>zya we (λa0 a1 a2=>some (.inr (a0,a1,a2)))) e)
def Yh{R:Type}(a:dU)(b:Int->ae R):ae R:=
 bif a.1<2 then b 1 else bif 128<a.1 then b 1 else(Hw a.2.1).bind λr1=>bif !r1 then b 6 else bif a.2.2.1<1 then b 3 else bif 3<a.2.2.1 then b 3 else bif a.2.2.2.1<1 then b 5 else bif a.2.2.2.2.1<a.2.2.2.1 then b 5 else bif 999<a.2.2.2.2.1 then b 5 else bif a.2.2.1=1 then bif !decide (a.2.2.2.1=a.2.2.2.2.1) then b 5 else bif !decide (a.2.2.1=1) then(yH a.2.2.1).bind λr2=>bif r2<a.2.2.2.2.1 then b 5 else bif a.2.2.1=1 then bif a.2.1=6 then b 13 else b 0 else b 0 else bif a.2.2.1=1 then bif a.2.1=6 then b 13 else b 0 else b 0 else bif !decide (a.2.2.1=1) then(yH a.2.2.1).bind λr3=>bif r3<a.2.2.2.2.1 then b 5 else bif a.2.2.1=1 then bif a.2.1=6 then b 13 else b 0 else b 0 else bif a.2.2.1=1 then bif a.2.1=6 then b 13 else b 0 else b 0
def tQ(a:dU):ae Int:=
 Yh a (λa0=>some a0)
def Yi{R:Type}(a:dU)(b:af)(c:Int->ae R):ae R:=
 (tQ a).bind λr1=>bif !decide (r1=0) then c 1 else bif(b.size:Int)<a.2.2.2.1 then c 5 else bif a.2.2.2.2.1<(b.size:Int) then c 5 else(LK a.2.1 b).bind λr2=>bif 0<=r2 then c 6 else bif a.2.1=6 then(Bk b).bind λr3=>aA (λ(CR:qS)=>bif !decide (CR.2.1=0) then c 13 else c 0) (λ(CR:qS)=>bif !decide (CR.2.1=0) then c 13 else c 0) r3 else c 0
def gP(a:dU)(b:af):ae Int:=
 Yi a b (λa0=>some a0)
def Yk{R:Type}(a b:Int)(c:Bool->ae R):ae R:=
 bif a=5 then c true else bif a=6 then c (decide (a=b)) else bif b=6 then c (decide (a=b)) else(LL a b).bind λr1=>c r1
def Dj(a b:Int):ae Bool:=
 Yk a b (λa0=>some a0)
def Yj{R:Type}(a b:dU)(c:Bool->ae R):ae R:=
 (tQ a).bind λr1=>bif r1=0 then(tQ b).bind λr2=>bif r2=0 then bif a.2.2.2.1<=b.2.2.2.1 then bif b.2.2.2.2.1<=a.2.2.2.2.1 then(Dj a.2.1 b.2.1).bind λr3=>c r3 else c false else c false else c false else c false
def tR(a b:dU):ae Bool:=
 Yj a b (λa0=>some a0)
def Uc{R:Type}(a:Int)(b:Bool->ae R):ae R:=
 bif a=1 then b true else b (decide (a=2))
def Hv(a:Int):ae Bool:=
 Uc a (λa0=>some a0)
def Zp{R:Type}(a b:Int)(c:Int->ae R):ae R:=
 bif a=2 then bif b=1 then c 1 else bif a=1 then bif b=5 then c 2 else bif b=6 then c 2 else c 0 else c 0 else bif a=1 then bif b=5 then c 2 else bif b=6 then c 2 else c 0 else c 0
def s4(a b:Int):ae Int:=
 Zp a b (λa0=>some a0)
def Zk{R:Type}(a:Int)(b:dU)(c:af)(d:Int)(e:af->Int->Int->ae R):ae R:=
 (Hv a).bind λr1=>bif !r1 then e (bs []) 0 1 else(tQ b).bind λr2=>bif !decide (r2=0) then e (bs []) 0 1 else bif d<0 then e (bs []) 0 1 else bif(c.size:Int)<d then e (bs []) 0 1 else bif !decide (b.2.2.1=1) then(A5 a b.2.2.1 c d).bind λr3=>bif !decide (r3.2.2=0) then e (bs []) 0 r3.2.2 else bif r3.1<b.2.2.2.1 then e (bs []) 0 5 else bif b.2.2.2.2.1<r3.1 then e (bs []) 0 5 else(s4 a b.2.1).bind λr4=>bif r4=1 then(Q2 r3.1).bind λr5=>bif zW zI ((c.size:Int)-r3.2.1)<r5 then e (bs []) 0 2 else bif 0<=zW zI (r3.2.1+r5) then bif zW zI (r3.2.1+r5)<=(c.size:Int) then bif 0<=r3.2.1 then bif r3.2.1<=(((zW zI (r3.2.1+r5)).toNat:Nat):Int) then(s4 a b.2.1).bind λr6=>bif r6=1 then(Q0 (c.extract r3.2.1.toNat (zW zI (r3.2.1+r5)).toNat) r3.1).bind λr7=>bif !decide (r7.2.1=0) then e (bs []) 0 r7.2.1 else(gP b r7.1).bind λr8=>bif !decide (r8=0) then e (bs []) 0 r8 else e r7.1 (zW zI (r3.2.1+r5)) 0 else bif r6=2 then(pj (c.extract r3.2.1.toNat (zW zI (r3.2.1+r5)).toNat)).bind λr9=>bif !r9.2.2 then e (bs []) 0 3 else(gP b r9.1).bind λum=>bif !decide (um=0) then e (bs []) 0 um else e r9.1 (zW zI (r3.2.1+r5)) 0 else(gP b (c.extract r3.2.1.toNat (zW zI (r3.2.1+r5)).toNat)).bind λvC=>bif !decide (vC=0) then e (bs []) 0 vC else e (c.extract r3.2.1.toNat (zW zI (r3.2.1+r5)).toNat) (zW zI (r3.2.1+r5)) 0 else none else none else none else none else bif r4=2 then bif zW zI ((c.size:Int)-r3.2.1)<zW zI (2*r3.1) then e (bs []) 0 2 else bif 0<=zW zI (r3.2.1+zW zI (2*r3.1)) then bif zW zI (r3.2.1+zW zI (2*r3.1))<=(c.size:Int) then bif 0<=r3.2.1 then bif r3.2.1<=(((zW zI (r3.2.1+zW zI (2*r3.1))).toNat:Nat):Int) then(s4 a b.2.1).bind λyj=>bif yj=1 then(Q0 (c.extract r3.2.1.toNat (zW zI (r3.2.1+zW zI (2*r3.1))).toNat) r3.1).bind λvP=>bif !decide (vP.2.1=0) then e (bs []) 0 vP.2.1 else(gP b vP.1).bind λCO=>bif !decide (CO=0) then e (bs []) 0 CO else e vP.1 (zW zI (r3.2.1+zW zI (2*r3.1))) 0 else bif yj=2 then(pj (c.extract r3.2.1.toNat (zW zI (r3.2.1+zW zI (2*r3.1))).toNat)).bind λAp=>bif !Ap.2.2 then e (bs []) 0 3 else(gP b Ap.1).bind λCP=>bif !decide (CP=0) then e (bs []) 0 CP else e Ap.1 (zW zI (r3.2.1+zW zI (2*r3.1))) 0 else(gP b (c.extract r3.2.1.toNat (zW zI (r3.2.1+zW zI (2*r3.1))).toNat)).bind λEC=>bif !decide (EC=0) then e (bs []) 0 EC else e (c.extract r3.2.1.toNat (zW zI (r3.2.1+zW zI (2*r3.1))).toNat) (zW zI (r3.2.1+zW zI (2*r3.1))) 0 else none else none else none else none else bif zW zI ((c.size:Int)-r3.2.1)<r3.1 then e (bs []) 0 2 else bif 0<=zW zI (r3.2.1+r3.1) then bif zW zI (r3.2.1+r3.1)<=(c.size:Int) then bif 0<=r3.2.1 then bif r3.2.1<=(((zW zI (r3.2.1+r3.1)).toNat:Nat):Int) then(s4 a b.2.1).bind λED=>bif ED=1 then(Q0 (c.extract r3.2.1.toNat (zW zI (r3.2.1+r3.1)).toNat) r3.1).bind λzQ=>bif !decide (zQ.2.1=0) then e (bs []) 0 zQ.2.1 else(gP b zQ.1).bind λCQ=>bif !decide (CQ=0) then e (bs []) 0 CQ else e zQ.1 (zW zI (r3.2.1+r3.1)) 0 else bif ED=2 then(pj (c.extract r3.2.1.toNat (zW zI (r3.2.1+r3.1)).toNat)).bind λCi=>bif !Ci.2.2 then e (bs []) 0 3 else(gP b Ci.1).bind λOy=>bif !decide (Oy=0) then e (bs []) 0 Oy else e Ci.1 (zW zI (r3.2.1+r3.1)) 0 else(gP b (c.extract r3.2.1.toNat (zW zI (r3.2.1+r3.1)).toNat)).bind λOz=>bif !decide (Oz=0) then e (bs []) 0 Oz else e (c.extract r3.2.1.toNat (zW zI (r3.2.1+r3.1)).toNat) (zW zI (r3.2.1+r3.1)) 0 else none else none else none else none else(s4 a b.2.1).bind λr24=>bif r24=1 then(Q2 b.2.2.2.1).bind λCj=>bif zW zI ((c.size:Int)-d)<Cj then e (bs []) 0 2 else bif 0<=zW zI (d+Cj) then bif zW zI (d+Cj)<=(c.size:Int) then bif 0<=d then bif d<=(((zW zI (d+Cj)).toNat:Nat):Int) then(s4 a b.2.1).bind λr26=>bif r26=1 then(Q0 (c.extract d.toNat (zW zI (d+Cj)).toNat) b.2.2.2.1).bind λVg=>bif !decide (Vg.2.1=0) then e (bs []) 0 Vg.2.1 else(gP b Vg.1).bind λr28=>bif !decide (r28=0) then e (bs []) 0 r28 else e Vg.1 (zW zI (d+Cj)) 0 else bif r26=2 then(pj (c.extract d.toNat (zW zI (d+Cj)).toNat)).bind λr29=>bif !r29.2.2 then e (bs []) 0 3 else(gP b r29.1).bind λr30=>bif !decide (r30=0) then e (bs []) 0 r30 else e r29.1 (zW zI (d+Cj)) 0 else(gP b (c.extract d.toNat (zW zI (d+Cj)).toNat)).bind λr31=>bif !decide (r31=0) then e (bs []) 0 r31 else e (c.extract d.toNat (zW zI (d+Cj)).toNat) (zW zI (d+Cj)) 0 else none else none else none else none else bif r24=2 then bif zW zI ((c.size:Int)-d)<zW zI (2*b.2.2.2.1) then e (bs []) 0 2 else bif 0<=zW zI (d+zW zI (2*b.2.2.2.1)) then bif zW zI (d+zW zI (2*b.2.2.2.1))<=(c.size:Int) then bif 0<=d then bif d<=(((zW zI (d+zW zI (2*b.2.2.2.1))).toNat:Nat):Int) then(s4 a b.2.1).bind λr32=>bif r32=1 then(Q0 (c.extract d.toNat (zW zI (d+zW zI (2*b.2.2.2.1))).toNat) b.2.2.2.1).bind λVh=>bif !decide (Vh.2.1=0) then e (bs []) 0 Vh.2.1 else(gP b Vh.1).bind λr34=>bif !decide (r34=0) then e (bs []) 0 r34 else e Vh.1 (zW zI (d+zW zI (2*b.2.2.2.1))) 0 else bif r32=2 then(pj (c.extract d.toNat (zW zI (d+zW zI (2*b.2.2.2.1))).toNat)).bind λr35=>bif !r35.2.2 then e (bs []) 0 3 else(gP b r35.1).bind λr36=>bif !decide (r36=0) then e (bs []) 0 r36 else e r35.1 (zW zI (d+zW zI (2*b.2.2.2.1))) 0 else(gP b (c.extract d.toNat (zW zI (d+zW zI (2*b.2.2.2.1))).toNat)).bind λr37=>bif !decide (r37=0) then e (bs []) 0 r37 else e (c.extract d.toNat (zW zI (d+zW zI (2*b.2.2.2.1))).toNat) (zW zI (d+zW zI (2*b.2.2.2.1))) 0 else none else none else none else none else bif zW zI ((c.size:Int)-d)<b.2.2.2.1 then e (bs []) 0 2 else bif 0<=zW zI (d+b.2.2.2.1) then bif zW zI (d+b.2.2.2.1)<=(c.size:Int) then bif 0<=d then bif d<=(((zW zI (d+b.2.2.2.1)).toNat:Nat):Int) then(s4 a b.2.1).bind λr38=>bif r38=1 then(Q0 (c.extract d.toNat (zW zI (d+b.2.2.2.1)).toNat) b.2.2.2.1).bind λVi=>bif !decide (Vi.2.1=0) then e (bs []) 0 Vi.2.1 else(gP b Vi.1).bind λr40=>bif !decide (r40=0) then e (bs []) 0 r40 else e Vi.1 (zW zI (d+b.2.2.2.1)) 0 else bif r38=2 then(pj (c.extract d.toNat (zW zI (d+b.2.2.2.1)).toNat)).bind λr41=>bif !r41.2.2 then e (bs []) 0 3 else(gP b r41.1).bind λr42=>bif !decide (r42=0) then e (bs []) 0 r42 else e r41.1 (zW zI (d+b.2.2.2.1)) 0 else(gP b (c.extract d.toNat (zW zI (d+b.2.2.2.1)).toNat)).bind λr43=>bif !decide (r43=0) then e (bs []) 0 r43 else e (c.extract d.toNat (zW zI (d+b.2.2.2.1)).toNat) (zW zI (d+b.2.2.2.1)) 0 else none else none else none else none
def LH(a:Int)(b:dU)(c:af)(d:Int):ae Kq:=
 Zk a b c d (λa0 a1 a2=>some (a0,a1,a2))
def Zm{R:Type}(a:Int)(b:dU)(c:af)(d:af->Int->ae R):ae R:=
 (Hv a).bind λr1=>bif !r1 then d (bs []) 1 else(gP b c).bind λr2=>bif !decide (r2=0) then d (bs []) r2 else bif !decide (b.2.2.1=1) then(yI a b.2.2.1 (c.size:Int)).bind λr3=>(s4 a b.2.1).bind λr4=>bif r4=1 then(Q1 c).bind λr5=>bif r3.1.size+r5.1.size<=9223372036854775807 then d (r3.1++r5.1) 0 else none else bif r4=2 then(rH c).bind λr6=>bif r3.1.size+r6.size<=9223372036854775807 then d (r3.1++r6) 0 else none else bif r3.1.size+c.size<=9223372036854775807 then d (r3.1++c) 0 else none else(s4 a b.2.1).bind λr7=>bif r7=1 then(Q1 c).bind λr8=>bif(bs []).size+r8.1.size<=9223372036854775807 then d (bs []++r8.1) 0 else none else bif r7=2 then(rH c).bind λr9=>bif(bs []).size+r9.size<=9223372036854775807 then d (bs []++r9) 0 else none else bif(bs []).size+c.size<=9223372036854775807 then d (bs []++c) 0 else none
def Hu(a:Int)(b:dU)(c:af):ae M9:=
 Zm a b c (λa0 a1=>some (a0,a1))
def ZM{R:Type}(a:dZ)(b:Int->Int->ae R)(c:dZ->Int->Int->sL->ae R):ae R:=
 bif 256<((ag a):Int) then b 5 256 else c a ((ag a):Int) 0 []
def Iz{R:Type}(a:dZ)(b c:Int)(d:sL)(e:Int->Int->ae R)(f:dZ->Int->Int->sL->ae R)(g:ae R):ae R:=
 bif c<b then zd c (ag a) (bif nB (oo .str) false d (ah a c.toNat (bs [],bs [],())).1 then e (10:Int) c else bif nC (oo .str) d (ah a c.toNat (bs [],bs [],())).1 then none else f a b (zW zI (c+(1:Int))) (d++ [((ah a c.toNat (bs [],bs [],())).1,true)])) else g
def IA{R:Type}(a b:Int)(c:Int->Int->ae R):ae R:=
 c a b
def IB{R:Type}(a:Int->Int->ae R):ae R:=
 a 0 0
def Uf:Nat->dZ->Int->Int->sL->ae (Sum (Int×Int) Unit)
 |0,_,_,_,_=>none
 |k+1,v0,v1,v2,v3=>Iz v0 v1 v2 v3 (λa0 a1=>some (.inl (a0,a1))) (λa0 a1 a2 a3=>Uf k a0 a1 a2 a3) (some (.inr ()))
def LO(a:dZ):ae (Int×Int):=
 ZM a (λa0 a1=>some (a0,a1)) (λa0 a1 a2 a3=>(Uf bE a0 a1 a2 a3).bind λe=>aA (λ(we:(Int×Int))=>IA we.1 we.2 (λa0 a1=>some (a0,a1))) (λ(we:Unit)=>IB (λa0 a1=>some (a0,a1))) e)
def ZJ{R:Type}(a:dZ)(b:af)(c:af->dZ->Int->Int->ae R):ae R:=
 c b a ((ag a):Int) 0
def Ix{R:Type}(a:af)(b:dZ)(c d:Int)(e:af->Bool->ae R)(f:af->dZ->Int->Int->ae R)(g:ae R):ae R:=
 bif d<c then zd d (ag b) (bif(ah b d.toNat (bs [],bs [],())).1=a then e (ah b d.toNat (bs [],bs [],())).2.1 true else f a b c (zW zI (d+1))) else g
def z130{R:Type}(a:af)(b:Bool)(c:af->Bool->ae R):ae R:=
 c a b
def z131{R:Type}(a:af->Bool->ae R):ae R:=
 a (bs []) false
def Ue:Nat->af->dZ->Int->Int->ae (Sum qT Unit)
 |0,_,_,_,_=>none
 |k+1,v0,v1,v2,v3=>Ix v0 v1 v2 v3 (λa0 a1=>some (.inl (a0,a1))) (λa0 a1 a2 a3=>Ue k a0 a1 a2 a3) (some (.inr ()))
def LN(a:dZ)(b:af):ae qT:=
 ZJ a b (λa0 a1 a2 a3=>(Ue bE a0 a1 a2 a3).bind λe=>aA (λ(we:qT)=>z130 we.1 we.2 (λa0 a1=>some (a0,a1))) (λ(we:Unit)=>z131 (λa0 a1=>some (a0,a1))) e)
def zs4{R:Type}(a:Int)(b:Int->ae R)(c:Int->cR->ae R):ae R:=
 bif a<1 then b 5 else bif 65535<a then b 5 else c 0 (a,false,[],())
def LZ(a:Int):ae (Sum Int yQ):=
 zs4 a (λa0=>some (.inl a0)) (λa0 a1=>some (.inr (a0,a1)))
def zs3{R:Type}(a:cR)(b:Int->cR->ae R):ae R:=
 bif((ag a.2.2.1):Int)<2 then b 0 a else zd 0 (ag a.2.2.1) (zd 1 (ag a.2.2.1) (b (dn .or .i64 (zW zI (zW zI (ah a.2.2.1 ((0:Int)).toNat 0)*2^min ((8:Int)).toNat 64)) (zW zI (ah a.2.2.1 ((1:Int)).toNat 0))) a))
def LY(a:cR):ae yQ:=
 zs3 a (λa0 a1=>some (a0,a1))
def zs0{R:Type}(a:cR)(b:af)(c:af->(List af)->Int->cR->ae R):ae R:=
 c b [] 0 a
def Uk{R:Type}(a:af)(b:(List af))(c:Int)(d:cR)(e:(List af)->Bool->(List af)->cR->ae R)(f:af->(List af)->Int->cR->ae R)(g:(List af)->cR->ae R):ae R:=
 bif c<(a.size:Int) then bif !d.2.1 then zd c a.size (bif(ag d.2.2.1+ag ([(ze a c.toNat)]:List Int))*1<=140737488355328 then(LY (d.1,d.2.1,d.2.2.1++([(ze a c.toNat)]:List Int),())).bind λr1=>bif((ag r1.2.2.2.1):Int)=2 then bif r1.1=0 then e b true b (r1.2.1,true,[],()) else bif r1.2.1<r1.1 then e b true b (r1.2.1,true,[],()) else bif((ag r1.2.2.2.1):Int)=zW zI (2+r1.1) then bif 0<r1.1 then bif 2<=(((ag r1.2.2.2.1):Nat):Int) then bif(ag b+ag ([(strOf (bk ((2:Int)).toNat (aI (ag r1.2.2.2.1) r1.2.2.2.1)))]:List af))*16<=140737488355328 then f a (b++([(strOf (bk ((2:Int)).toNat (aI (ag r1.2.2.2.1) r1.2.2.2.1)))]:List af)) (zW zI (c+1)) (r1.2.1,r1.2.2.1,[],()) else none else none else f a b (zW zI (c+1)) r1.2 else f a b (zW zI (c+1)) r1.2 else bif((ag r1.2.2.2.1):Int)=zW zI (2+r1.1) then bif 0<r1.1 then bif 2<=(((ag r1.2.2.2.1):Nat):Int) then bif(ag b+ag ([(strOf (bk ((2:Int)).toNat (aI (ag r1.2.2.2.1) r1.2.2.2.1)))]:List af))*16<=140737488355328 then f a (b++([(strOf (bk ((2:Int)).toNat (aI (ag r1.2.2.2.1) r1.2.2.2.1)))]:List af)) (zW zI (c+1)) (r1.2.1,r1.2.2.1,[],()) else none else none else f a b (zW zI (c+1)) r1.2 else f a b (zW zI (c+1)) r1.2 else none) else g b d else g b d
def zs1{R:Type}(a:(List af))(b:Bool)(c:(List af))(d:cR)(e:(List af)->Bool->cR->ae R):ae R:=
 e a b d
def zs2{R:Type}(a:(List af))(b:cR)(c:(List af)->Bool->cR->ae R):ae R:=
 c a false b
def Kd:Nat->af->(List af)->Int->cR->ae (Sum ((List af)×Bool×(List af)×cR) ((List af)×cR))
 |0,_,_,_,_=>none
 |k+1,v0,v1,v2,v3=>Uk v0 v1 v2 v3 (λa0 a1 a2 a3=>some (.inl (a0,a1,a2,a3))) (λa0 a1 a2 a3=>Kd k a0 a1 a2 a3) (λa0 a1=>some (.inr (a0,a1)))
def Hy(a:cR)(b:af):ae ((List af)×Bool×cR):=
 zs0 a b (λa0 a1 a2 a3=>(Kd bE a0 a1 a2 a3).bind λe=>aA (λ(we:((List af)×Bool×(List af)×cR))=>zs1 we.1 we.2.1 we.2.2.1 we.2.2.2 (λa0 a1 a2=>some (a0,a1,a2))) (λ(we:((List af)×cR))=>zs2 we.1 we.2 (λa0 a1 a2=>some (a0,a1,a2))) e)
def zs5{R:Type}(a:af)(b:af->Int->ae R):ae R:=
 bif(a.size:Int)<1 then b (bs []) 5 else bif 65535<(a.size:Int) then b (bs []) 5 else bif(strOf ([(zW zU (aX (a.size:Int) (2^min ((8:Int)).toNat 64))),(zW zU (a.size:Int))]:List Int)).size+a.size<=9223372036854775807 then b (strOf ([(zW zU (aX (a.size:Int) (2^min ((8:Int)).toNat 64))),(zW zU (a.size:Int))]:List Int)++a) 0 else none
def Hz(a:af):ae M9:=
 zs5 a (λa0 a1=>some (a0,a1))
def II{R:Type}(a:cR)(b:Bool->cR->ae R):ae R:=
 b a.2.1 a
def Q40(a:cR):ae (Bool×cR):=
 II a (λa0 a1=>some (a0,a1))
def IK{R:Type}(a:cR)(b:Int->cR->ae R):ae R:=
 b ((ag a.2.2.1):Int) a
def Q42(a:cR):ae yQ:=
 IK a (λa0 a1=>some (a0,a1))
def Xw{R:Type}(a:af)(b:Bool->ae R):ae R:=
 bif(a.size:Int)=4 then(Fe a).bind λr1=>b r1 else b false
def wq(a:af):ae Bool:=
 Xw a (λa0=>some a0)
def Xx{R:Type}(a:af)(b:Int->Bool->ae R):ae R:=
 (wq a).bind λr1=>bif !r1 then b 0 false else zd 0 a.size (b (zW zI (zW zU (ze a ((0:Int)).toNat-48))) true)
def qQ(a:af):ae (Int×Bool):=
 Xx a (λa0 a1=>some (a0,a1))
def Xu{R:Type}(a:af)(b:Bool->ae R):ae R:=
 (wq a).bind λr1=>bif r1 then zd 2 a.size (bif ze a ((2:Int)).toNat=48 then b true else zd 2 a.size (b (decide (ze a ((2:Int)).toNat=50)))) else b false
def wo(a:af):ae Bool:=
 Xu a (λa0=>some a0)
def Xv{R:Type}(a:af)(b:af->Bool->ae R):ae R:=
 (wo a).bind λr1=>bif !r1 then b (bs []) false else bif 2<=(a.size:Int) then zd 2 a.size (bif(a.extract 0 ((2:Int)).toNat).size+(strOf ([(zW zU (ze a ((2:Int)).toNat+1))]:List Int)).size<=9223372036854775807 then bif 3<=(a.size:Int) then bif(a.extract 0 ((2:Int)).toNat++strOf ([(zW zU (ze a ((2:Int)).toNat+1))]:List Int)).size+(a.extract ((3:Int)).toNat a.size).size<=9223372036854775807 then b ((a.extract 0 ((2:Int)).toNat++strOf ([(zW zU (ze a ((2:Int)).toNat+1))]:List Int))++a.extract ((3:Int)).toNat a.size) true else none else none else none) else none
def A4(a:af):ae qT:=
 Xv a (λa0 a1=>some (a0,a1))
def Lb{R:Type}(a:bm)(b:Int->Int->ae R)(c:rN->Int->Int->bm->ae R):ae R:=
 bif !decide (a.1=1) then bif !decide (a.1=2) then b 1 (-1:Int) else bif a.2.1<0 then b 7 (-1:Int) else bif 9<a.2.1 then b 7 (-1:Int) else c a.2.2.1 ((ag a.2.2.1):Int) 0 a else bif a.2.1<0 then b 7 (-1:Int) else bif 9<a.2.1 then b 7 (-1:Int) else c a.2.2.1 ((ag a.2.2.1):Int) 0 a
theorem aco{R S:Type}(F:R->ae S)(a)(b)(c):(Lb a b c).bind F=Lb a (λa0 a1=>(b a0 a1).bind F) (λa0 a1 a2 a3=>(c a0 a1 a2 a3).bind F):=by simp only[Lb,cP]
def TN{R:Type}(a:rN)(b c:Int)(d:bm)(e:Int->Int->ae R)(f:rN->Int->Int->bm->ae R)(g:ae R):ae R:=
 bif c<b then zd c (ag a) ((tQ (ah a c.toNat (0,0,0,0,0,()))).bind λr1=>bif !decide (r1=0) then e r1 c else bif 0<c then zd (zW zI (c-1)) (ag d.2.2.1) (bif(ah a c.toNat (0,0,0,0,0,())).1<=(ah d.2.2.1 (zW zI (c-(1:Int))).toNat (0,0,0,0,0,())).1 then e 11 c else f a b (zW zI (c+1)) d) else f a b (zW zI (c+1)) d) else g
def X5{R:Type}(a b:Int)(c:Int->Int->ae R):ae R:=
 c a b
def X6{R:Type}(a:Int->Int->ae R):ae R:=
 a 0 0
def Hd:Nat->rN->Int->Int->bm->ae (Sum (Int×Int) Unit)
 |0,_,_,_,_=>none
 |k+1,v0,v1,v2,v3=>TN v0 v1 v2 v3 (λa0 a1=>some (.inl (a0,a1))) (λa0 a1 a2 a3=>Hd k a0 a1 a2 a3) (some (.inr ()))
def uK(a:bm):ae (Int×Int):=
 Lb a (λa0 a1=>some (a0,a1)) (λa0 a1 a2 a3=>(Hd bE a0 a1 a2 a3).bind λe=>aA (λ(we:(Int×Int))=>X5 we.1 we.2 (λa0 a1=>some (a0,a1))) (λ(we:Unit)=>X6 (λa0 a1=>some (a0,a1))) e)
def X8{R:Type}(a:bm)(b:Int)(c:Int->rN->Int->Int->dU->ae R):ae R:=
 c b a.2.2.1 ((ag a.2.2.1):Int) 0 (0,0,0,0,0,())
def zxp{R:Type}(a:Int)(b:rN)(c d:Int)(e:dU)(f:Bool->dU->ae R)(g:Int->rN->Int->Int->dU->ae R)(h:dU->ae R):ae R:=
 bif d<c then zd d (ag b) (bif(ah b d.toNat (0,0,0,0,0,())).1=a then f true (ah b d.toNat (0,0,0,0,0,())) else g a b c (zW zI (d+1)) e) else h e
def zxq{R:Type}(a:Bool)(b:dU)(c:dU->Bool->ae R):ae R:=
 c b a
def zxr{R:Type}(a:dU)(b:dU->Bool->ae R):ae R:=
 b (0,0,0,0,0,()) false
def TO:Nat->Int->rN->Int->Int->dU->ae (Sum (Bool×dU) dU)
 |0,_,_,_,_,_=>none
 |k+1,v0,v1,v2,v3,v4=>zxp v0 v1 v2 v3 v4 (λa0 a1=>some (.inl (a0,a1))) (λa0 a1 a2 a3 a4=>TO k a0 a1 a2 a3 a4) (λa0=>some (.inr a0))
def oc(a:bm)(b:Int):ae (dU×Bool):=
 X8 a b (λa0 a1 a2 a3 a4=>(TO bE a0 a1 a2 a3 a4).bind λe=>aA (λ(we:(Bool×dU))=>zxq we.1 we.2 (λa0 a1=>some (a0,a1))) (λ(we:dU)=>zxr we (λa0 a1=>some (a0,a1))) e)
def Xn{R:Type}(a:cu)(b:Int)(c:Int->cQ->Int->Int->ae R):ae R:=
 c b a.2.1 ((ag a.2.1):Int) 0
def zwt{R:Type}(a:Int)(b:cQ)(c d:Int)(e:af->Bool->ae R)(f:Int->cQ->Int->Int->ae R)(g:ae R):ae R:=
 bif d<c then zd d (ag b) (bif(ah b d.toNat (0,bs [],())).1=a then e (ah b d.toNat (0,bs [],())).2.1 true else f a b c (zW zI (d+1))) else g
def zwu{R:Type}(a:af)(b:Bool)(c:af->Bool->ae R):ae R:=
 c a b
def zwv{R:Type}(a:af->Bool->ae R):ae R:=
 a (bs []) false
def TD:Nat->Int->cQ->Int->Int->ae (Sum qT Unit)
 |0,_,_,_,_=>none
 |k+1,v0,v1,v2,v3=>zwt v0 v1 v2 v3 (λa0 a1=>some (.inl (a0,a1))) (λa0 a1 a2 a3=>TD k a0 a1 a2 a3) (some (.inr ()))
def wl(a:cu)(b:Int):ae qT:=
 Xn a b (λa0 a1 a2 a3=>(TD bE a0 a1 a2 a3).bind λe=>aA (λ(we:qT)=>zwu we.1 we.2 (λa0 a1=>some (a0,a1))) (λ(we:Unit)=>zwv (λa0 a1=>some (a0,a1))) e)
def Xt{R:Type}(a:cu)(b:Int)(c:Int->cQ->Int->Int->cu->cu->ae R):ae R:=
 c b a.2.1 ((ag a.2.1):Int) 0 (bs [],[],()) (a.1,[],())
def zwz{R:Type}(a:Int)(b:cQ)(c d:Int)(e f:cu)(g:Int->cQ->Int->Int->cu->cu->ae R)(h:cu->cu->ae R):ae R:=
 bif d<c then zd d (ag b) (bif !decide ((ah b d.toNat (0,bs [],())).1=a) then bif(ag f.2.1+ag ([(ah b d.toNat ((0:Int),bs [],()))]:List eS))*24<=140737488355328 then g a b c (zW zI (d+1)) e (f.1,f.2.1++([(ah b d.toNat (0,bs [],()))]:List eS),()) else none else g a b c (zW zI (d+1)) e f) else h e f
def zx0{R:Type}(a b:cu)(c:cu->ae R):ae R:=
 c b
def TF:Nat->Int->cQ->Int->Int->cu->cu->ae (cu×cu)
 |0,_,_,_,_,_,_=>none
 |k+1,v0,v1,v2,v3,v4,v5=>zwz v0 v1 v2 v3 v4 v5 (λa0 a1 a2 a3 a4 a5=>TF k a0 a1 a2 a3 a4 a5) (λa0 a1=>some (a0,a1))
def A3(a:cu)(b:Int):ae cu:=
 Xt a b (λa0 a1 a2 a3 a4 a5=>(TF bE a0 a1 a2 a3 a4 a5).bind λe=>zx0 e.1 e.2 (λa0=>some a0))
def zwy{R:Type}(a:eS)(b:Int)(c:Bool->Int->ae R):ae R:=
 c (decide (b<a.1)) b
def A0(a:eS)(b:Int):ae (Bool×Int):=
 zwy a b (λa0 a1=>some (a0,a1))
def Ye{R:Type}(a:cQ)(b:Int)(c:cQ->Int->Int->Int->ae R):ae R:=
 c a ((ag a):Int) 0 b
def zxx{R:Type}(a:cQ)(b c d:Int)(e:Int->Int->ae R)(f:cQ->Int->Int->Int->ae R)(g:Int->ae R):ae R:=
 bif c<b then zd c (ag a) ((A0 (ah a c.toNat (0,bs [],())) d).bind λr1=>bif r1.1 then e c r1.2 else f a b (zW zI (c+1)) r1.2) else g d
def zxy{R:Type}(a b:Int)(c:Int->Int->ae R):ae R:=
 c a b
def zxz{R:Type}(a:Int)(b:Int->Int->ae R):ae R:=
 b (-1:Int) a
def TQ:Nat->cQ->Int->Int->Int->ae (Sum (Int×Int) Int)
 |0,_,_,_,_=>none
 |k+1,v0,v1,v2,v3=>zxx v0 v1 v2 v3 (λa0 a1=>some (.inl (a0,a1))) (λa0 a1 a2 a3=>TQ k a0 a1 a2 a3) (λa0=>some (.inr a0))
def Bf(a:cQ)(b:Int):ae (Int×Int):=
 Ye a b (λa0 a1 a2 a3=>(TQ bE a0 a1 a2 a3).bind λe=>aA (λ(we:(Int×Int))=>zxy we.1 we.2 (λa0 a1=>some (a0,a1))) (λ(we:Int)=>zxz we (λa0 a1=>some (a0,a1))) e)
def Xq{R:Type}(a:cu)(b:Int)(c:af)(d:cu->ae R):ae R:=
 (A3 a b).bind λr1=>(Bf r1.2.1 b).bind λr2=>bif r2.1<0 then bif zW zI (((ag r1.2.1):Int)+1)=zW zI (((ag r1.2.1):Int)+1) then bif 0<=zW zI (((ag r1.2.1):Int)+1) then bif zW zI (((ag r1.2.1):Int)+1)*24<=140737488355328 then bif 0<=((ag r1.2.1):Int) then bif((ag r1.2.1):Int)<=(((ag r1.2.1):Nat):Int) then bif ak (zW zI (((ag r1.2.1):Int)+(1:Int))).toNat (ag (aB (zW zI (((ag r1.2.1):Int)+(1:Int))).toNat ((0:Int),bs [],()))) then zd ((ag r1.2.1):Int) (zW zI (((ag r1.2.1):Int)+(1:Int))).toNat (bif bC ((((ag r1.2.1):Int)).toNat+1) (ag (gQ (aB (zW zI (((ag r1.2.1):Int)+(1:Int))).toNat ((0:Int),bs [],())) (aI (zW zI (((ag r1.2.1):Int)+(1:Int))).toNat (bk 0 (aI (((ag r1.2.1):Int)).toNat r1.2.1))) 0)) then bif 0<=zW zI (((ag r1.2.1):Int)+1) then bif zW zI (((ag r1.2.1):Int)+1)<=(((zW zI (((ag r1.2.1):Int)+(1:Int))).toNat:Nat):Int) then bif 0<=((ag r1.2.1):Int) then bif((ag r1.2.1):Int)<=(((ag r1.2.1):Nat):Int) then bif ak (zW zI (((ag r1.2.1):Int)+(1:Int))).toNat (ag (cK (gQ (aB (zW zI (((ag r1.2.1):Int)+(1:Int))).toNat ((0:Int),bs [],())) (aI (zW zI (((ag r1.2.1):Int)+(1:Int))).toNat (bk 0 (aI (((ag r1.2.1):Int)).toNat r1.2.1))) 0) (((ag r1.2.1):Int)).toNat (r2.2,c,()))) then bif bC (zW zI (((ag r1.2.1):Int)+(1:Int))).toNat (zW zI (((ag r1.2.1):Int)+(1:Int))).toNat then bif ak (zW zI (((ag r1.2.1):Int)+(1:Int))).toNat (ag (gQ (cK (gQ (aB (zW zI (((ag r1.2.1):Int)+(1:Int))).toNat ((0:Int),bs [],())) (aI (zW zI (((ag r1.2.1):Int)+(1:Int))).toNat (bk 0 (aI (((ag r1.2.1):Int)).toNat r1.2.1))) 0) (((ag r1.2.1):Int)).toNat (r2.2,c,())) (aI ((zW zI (((ag r1.2.1):Int)+(1:Int))).toNat-(zW zI (((ag r1.2.1):Int)+(1:Int))).toNat) (bk (((ag r1.2.1):Int)).toNat (aI (ag r1.2.1) r1.2.1))) (zW zI (((ag r1.2.1):Int)+(1:Int))).toNat)) then d (a.1,gQ (cK (gQ (aB (zW zI (((ag r1.2.1):Int)+(1:Int))).toNat (0,bs [],())) (aI (zW zI (((ag r1.2.1):Int)+(1:Int))).toNat (bk 0 (aI (((ag r1.2.1):Int)).toNat r1.2.1))) 0) (((ag r1.2.1):Int)).toNat (r2.2,c,())) (aI ((zW zI (((ag r1.2.1):Int)+(1:Int))).toNat-(zW zI (((ag r1.2.1):Int)+(1:Int))).toNat) (bk (((ag r1.2.1):Int)).toNat (aI (ag r1.2.1) r1.2.1))) (zW zI (((ag r1.2.1):Int)+(1:Int))).toNat,()) else none else none else none else none else none else none else none else none) else none else none else none else none else none else none else bif zW zI (((ag r1.2.1):Int)+1)=zW zI (((ag r1.2.1):Int)+1) then bif 0<=zW zI (((ag r1.2.1):Int)+1) then bif zW zI (((ag r1.2.1):Int)+1)*24<=140737488355328 then bif 0<=r2.1 then bif r2.1<=(((ag r1.2.1):Nat):Int) then bif ak (zW zI (((ag r1.2.1):Int)+(1:Int))).toNat (ag (aB (zW zI (((ag r1.2.1):Int)+(1:Int))).toNat ((0:Int),bs [],()))) then zd r2.1 (zW zI (((ag r1.2.1):Int)+(1:Int))).toNat (bif bC (r2.1.toNat+1) (ag (gQ (aB (zW zI (((ag r1.2.1):Int)+(1:Int))).toNat ((0:Int),bs [],())) (aI (zW zI (((ag r1.2.1):Int)+(1:Int))).toNat (bk 0 (aI r2.1.toNat r1.2.1))) 0)) then bif 0<=zW zI (r2.1+1) then bif zW zI (r2.1+1)<=(((zW zI (((ag r1.2.1):Int)+(1:Int))).toNat:Nat):Int) then bif 0<=r2.1 then bif r2.1<=(((ag r1.2.1):Nat):Int) then bif ak (zW zI (((ag r1.2.1):Int)+(1:Int))).toNat (ag (cK (gQ (aB (zW zI (((ag r1.2.1):Int)+(1:Int))).toNat ((0:Int),bs [],())) (aI (zW zI (((ag r1.2.1):Int)+(1:Int))).toNat (bk 0 (aI r2.1.toNat r1.2.1))) 0) r2.1.toNat (r2.2,c,()))) then bif bC (zW zI (r2.1+(1:Int))).toNat (zW zI (((ag r1.2.1):Int)+(1:Int))).toNat then bif ak (zW zI (((ag r1.2.1):Int)+(1:Int))).toNat (ag (gQ (cK (gQ (aB (zW zI (((ag r1.2.1):Int)+(1:Int))).toNat ((0:Int),bs [],())) (aI (zW zI (((ag r1.2.1):Int)+(1:Int))).toNat (bk 0 (aI r2.1.toNat r1.2.1))) 0) r2.1.toNat (r2.2,c,())) (aI ((zW zI (((ag r1.2.1):Int)+(1:Int))).toNat-(zW zI (r2.1+(1:Int))).toNat) (bk r2.1.toNat (aI (ag r1.2.1) r1.2.1))) (zW zI (r2.1+(1:Int))).toNat)) then d (a.1,gQ (cK (gQ (aB (zW zI (((ag r1.2.1):Int)+(1:Int))).toNat (0,bs [],())) (aI (zW zI (((ag r1.2.1):Int)+(1:Int))).toNat (bk 0 (aI r2.1.toNat r1.2.1))) 0) r2.1.toNat (r2.2,c,())) (aI ((zW zI (((ag r1.2.1):Int)+(1:Int))).toNat-(zW zI (r2.1+(1:Int))).toNat) (bk r2.1.toNat (aI (ag r1.2.1) r1.2.1))) (zW zI (r2.1+(1:Int))).toNat,()) else none else none else none else none else none else none else none else none) else none else none else none else none else none else none
def pJ(a:cu)(b:Int)(c:af):ae cu:=
 Xq a b c (λa0=>some a0)
def Xl{R:Type}(a:bm)(b:cu)(c:dV->ae R)(d:Int->cQ->Int->Int->bm->dV->ae R):ae R:=
 (uK a).bind λr1=>bif !decide (r1.1=0) then c (1,(-1:Int),()) else(qQ b.1).bind λr2=>bif !r2.2 then c (7,0,()) else bif !decide (r2.1=a.2.1) then c (7,0,()) else d 0 b.2.1 ((ag b.2.1):Int) 0 a (0,0,())
def zwp{R:Type}(a:Int)(b:cQ)(c d:Int)(e:bm)(f:dV)(g:dV->ae R)(h:Int->cQ->Int->Int->bm->dV->ae R)(i:dV->ae R):ae R:=
 bif d<c then zd d (ag b) (bif(ah b d.toNat (0,bs [],())).1<=a then g (11,(ah b d.toNat (0,bs [],())).1,()) else(oc e (ah b d.toNat (0,bs [],())).1).bind λr3=>bif !r3.2 then g (9,(ah b d.toNat (0,bs [],())).1,()) else(gP r3.1 (ah b d.toNat (0,bs [],())).2.1).bind λr4=>bif !decide (r4=0) then g (r4,(ah b d.toNat (0,bs [],())).1,()) else h (ah b d.toNat (0,bs [],())).1 b c (zW zI (d+1)) e f) else i f
def zwq{R:Type}(a:dV)(b:dV->ae R):ae R:=
 b a
def zwr{R:Type}(a:dV)(b:dV->ae R):ae R:=
 b (0,0,())
def TC:Nat->Int->cQ->Int->Int->bm->dV->ae (Sum dV dV)
 |0,_,_,_,_,_,_=>none
 |k+1,v0,v1,v2,v3,v4,v5=>zwp v0 v1 v2 v3 v4 v5 (λa0=>some (.inl a0)) (λa0 a1 a2 a3 a4 a5=>TC k a0 a1 a2 a3 a4 a5) (λa0=>some (.inr a0))
def yG(a:bm)(b:cu):ae dV:=
 Xl a b (λa0=>some a0) (λa0 a1 a2 a3 a4 a5=>(TC bE a0 a1 a2 a3 a4 a5).bind λe=>aA (λ(we:dV)=>zwq we (λa0=>some a0)) (λ(we:dV)=>zwr we (λa0=>some a0)) e)
def Xp{R:Type}(a:cu)(b:cQ->Int->Int->dV->dV->ae R):ae R:=
 b a.2.1 ((ag a.2.1):Int) 0 (0,0,()) (0,0,())
def zww{R:Type}(a:cQ)(b c:Int)(d e:dV)(f:cQ->Int->Int->dV->dV->ae R)(g:dV->dV->ae R):ae R:=
 bif c<b then zd c (ag a) ((Fi e (ah a c.toNat (0,bs [],())).1).bind λr1=>f a b (zW zI (c+1)) d r1) else g d e
def zwx{R:Type}(a b:dV)(c:dV->ae R):ae R:=
 c b
def TE:Nat->cQ->Int->Int->dV->dV->ae (dV×dV)
 |0,_,_,_,_,_=>none
 |k+1,v0,v1,v2,v3,v4=>zww v0 v1 v2 v3 v4 (λa0 a1 a2 a3 a4=>TE k a0 a1 a2 a3 a4) (λa0 a1=>some (a0,a1))
def AZ(a:cu):ae dV:=
 Xp a (λa0 a1 a2 a3 a4=>(TE bE a0 a1 a2 a3 a4).bind λe=>zwx e.1 e.2 (λa0=>some a0))
def Yg{R:Type}(a:(List Int))(b:Int)(c:(List Int)->Int->Int->Int->ae R):ae R:=
 c a b ((ag a):Int) 0
def zy1{R:Type}(a:(List Int))(b c d:Int)(e:Int->ae R)(f:(List Int)->Int->Int->Int->ae R)(g:ae R):ae R:=
 bif d<c then zd d (ag a) (bif b=ah a d.toNat 0 then e d else f a b c (zW zI (d+1))) else g
def zy2{R:Type}(a:Int)(b:Int->ae R):ae R:=
 b a
def zy3{R:Type}(a:Int->ae R):ae R:=
 a (-1:Int)
def TR:Nat->(List Int)->Int->Int->Int->ae (Sum Int Unit)
 |0,_,_,_,_=>none
 |k+1,v0,v1,v2,v3=>zy1 v0 v1 v2 v3 (λa0=>some (.inl a0)) (λa0 a1 a2 a3=>TR k a0 a1 a2 a3) (some (.inr ()))
def Di(a:(List Int))(b:Int):ae Int:=
 Yg a b (λa0 a1 a2 a3=>(TR bE a0 a1 a2 a3).bind λe=>aA (λ(we:Int)=>zy2 we (λa0=>some a0)) (λ(we:Unit)=>zy3 (λa0=>some a0)) e)
def Ya{R:Type}(a:(List Int))(b:Int)(c:Bool->ae R):ae R:=
 (Di a b).bind λr1=>c (decide (0<=r1))
def Be(a:(List Int))(b:Int):ae Bool:=
 Ya a b (λa0=>some a0)
def XR{R:Type}(a:ct)(b:Int)(c:Int->ae R):ae R:=
 zd b (ag a.2.2.1) ((oc a.1 (ah a.2.2.1 b.toNat (0:Int))).bind λr1=>bif !r1.2 then c 9 else bif ah a.2.2.1 b.toNat 0=39 then c 1 else bif 0<=b then bif b<=(((ag a.2.2.1):Nat):Int) then(Be (bk 0 (aI b.toNat a.2.2.1)) (ah a.2.2.1 b.toNat (0:Int))).bind λr2=>bif r2 then c 10 else c 0 else none else none)
def Bb(a:ct)(b:Int):ae Int:=
 XR a b (λa0=>some a0)
def XQ{R:Type}(a b:eS)(c:Bool->eS->ae R):ae R:=
 c (decide (a.1=b.1)) b
def yK(a b:eS):ae (Bool×eS):=
 XQ a b (λa0 a1=>some (a0,a1))
def Yc{R:Type}(a:cQ)(b:eS)(c:cQ->Int->Int->eS->ae R):ae R:=
 c a ((ag a):Int) 0 b
def zxt{R:Type}(a:cQ)(b c:Int)(d:eS)(e:Int->eS->ae R)(f:cQ->Int->Int->eS->ae R)(g:eS->ae R):ae R:=
 bif c<b then zd c (ag a) ((yK (ah a c.toNat (0,bs [],())) d).bind λr1=>bif r1.1 then e c r1.2 else f a b (zW zI (c+1)) r1.2) else g d
def zxu{R:Type}(a:Int)(b:eS)(c:Int->eS->ae R):ae R:=
 c a b
def zxv{R:Type}(a:eS)(b:Int->eS->ae R):ae R:=
 b (-1:Int) a
def TP:Nat->cQ->Int->Int->eS->ae (Sum (Int×eS) eS)
 |0,_,_,_,_=>none
 |k+1,v0,v1,v2,v3=>zxt v0 v1 v2 v3 (λa0 a1=>some (.inl (a0,a1))) (λa0 a1 a2 a3=>TP k a0 a1 a2 a3) (λa0=>some (.inr a0))
def Dh(a:cQ)(b:eS):ae (Int×eS):=
 Yc a b (λa0 a1 a2 a3=>(TP bE a0 a1 a2 a3).bind λe=>aA (λ(we:(Int×eS))=>zxu we.1 we.2 (λa0 a1=>some (a0,a1))) (λ(we:eS)=>zxv we (λa0 a1=>some (a0,a1))) e)
def X9{R:Type}(a:cQ)(b:eS)(c:Bool->eS->ae R):ae R:=
 (Dh a b).bind λr1=>c (decide (0<=r1.1)) r1.2
def Bd(a:cQ)(b:eS):ae (Bool×eS):=
 X9 a b (λa0 a1=>some (a0,a1))
def XP{R:Type}(a:ct)(b:Int)(c:dU)(d:Int->ae R):ae R:=
 zd b (ag a.2.2.2.1) (bif(ah a.2.2.2.1 b.toNat (0,bs [],())).1<0 then d 1 else bif 16<(ah a.2.2.2.1 b.toNat (0,bs [],())).1 then d 1 else bif 0<=b then bif b<=(((ag a.2.2.2.1):Nat):Int) then(Bd (bk 0 (aI b.toNat a.2.2.2.1)) (ah a.2.2.2.1 b.toNat (0,bs [],()))).bind λr1=>bif r1.1 then d 10 else(gP c r1.2.2.1).bind λr2=>d r2 else none else none)
def Ba(a:ct)(b:Int)(c:dU):ae Int:=
 XP a b c (λa0=>some a0)
def XH{R:Type}(a:ct)(b:Int->Int->Int->ae R)(c:Int->Int->ct->dU->ae R):ae R:=
 (uK a.1).bind λr1=>bif !decide (r1.1=0) then b 1 1 0 else(oc a.1 (39:Int)).bind λr2=>bif !r2.2 then b 9 1 1 else c ((ag a.2.2.1):Int) 0 a r2.1
def TJ{R:Type}(a b:Int)(c:ct)(d:dU)(e:Int->Int->Int->ct->dU->ae R)(f:Int->Int->ct->dU->ae R)(g:ct->dU->ae R):ae R:=
 bif b<a then(Bb c b).bind λr3=>bif !decide (r3=0) then e r3 2 b c d else f a (zW zI (b+1)) c d else g c d
def zx8{R:Type}(a b c:Int)(d:ct)(e:dU)(f:Int->Int->Int->ae R):ae R:=
 f a b c
def XI{R:Type}(a:ct)(b:dU)(c:Bool->cQ->Int->Int->ct->dU->ae R):ae R:=
 c false a.2.2.2.1 ((ag a.2.2.2.1):Int) 0 a b
def TK{R:Type}(a:Bool)(b:cQ)(c d:Int)(e:ct)(f:dU)(g:Int->Int->Int->Bool->ct->ae R)(h:Bool->cQ->Int->Int->ct->dU->ae R)(i:Bool->ct->ae R):ae R:=
 bif d<c then zd d (ag b) ((Ba e d f).bind λr4=>bif !decide (r4=0) then g r4 3 d a e else bif a then h true b c (zW zI (d+1)) e f else h (decide ((ah b d.toNat (0,bs [],())).1=0)) b c (zW zI (d+1)) e f) else i a e
def zx9{R:Type}(a b c:Int)(d:Bool)(e:ct)(f:Int->Int->Int->ae R):ae R:=
 f a b c
def XJ{R:Type}(a:Bool)(b:ct)(c:Int->Int->Int->ae R):ae R:=
 bif !a then c 15 3 ((ag b.2.2.2.1):Int) else c 0 0 0
def JW:Nat->Int->Int->ct->dU->ae (Sum (Int×Int×Int×ct×dU) (ct×dU))
 |0,_,_,_,_=>none
 |k+1,v0,v1,v2,v3=>TJ v0 v1 v2 v3 (λa0 a1 a2 a3 a4=>some (.inl (a0,a1,a2,a3,a4))) (λa0 a1 a2 a3=>JW k a0 a1 a2 a3) (λa0 a1=>some (.inr (a0,a1)))
def JX:Nat->Bool->cQ->Int->Int->ct->dU->ae (Sum (Int×Int×Int×Bool×ct) (Bool×ct))
 |0,_,_,_,_,_,_=>none
 |k+1,v0,v1,v2,v3,v4,v5=>TK v0 v1 v2 v3 v4 v5 (λa0 a1 a2 a3 a4=>some (.inl (a0,a1,a2,a3,a4))) (λa0 a1 a2 a3 a4 a5=>JX k a0 a1 a2 a3 a4 a5) (λa0 a1=>some (.inr (a0,a1)))
def A8(a:ct):ae qw:=
 XH a (λa0 a1 a2=>some (a0,a1,a2)) (λa0 a1 a2 a3=>(JW bE a0 a1 a2 a3).bind λe=>aA (λ(we:(Int×Int×Int×ct×dU))=>zx8 we.1 we.2.1 we.2.2.1 we.2.2.2.1 we.2.2.2.2 (λa0 a1 a2=>some (a0,a1,a2))) (λ(we:(ct×dU))=>XI we.1 we.2 (λa0 a1 a2 a3 a4 a5=>(JX bE a0 a1 a2 a3 a4 a5).bind λe=>aA (λ(we:(Int×Int×Int×Bool×ct))=>zx9 we.1 we.2.1 we.2.2.1 we.2.2.2.1 we.2.2.2.2 (λa0 a1 a2=>some (a0,a1,a2))) (λ(we:(Bool×ct))=>XJ we.1 we.2 (λa0 a1 a2=>some (a0,a1,a2))) e)) e)
def XM{R:Type}(a:ct)(b:Int)(c:(List Int)->Int->Int->ct->ae R):ae R:=
 c ([b,0]:List Int) ((ag ([b,(0:Int)]:List Int)):Int) 0 a
def TL{R:Type}(a:(List Int))(b c:Int)(d:ct)(e:Int->(List Int)->Int->Int->cQ->Int->Int->ct->ae R)(f:ae R):ae R:=
 bif c<b then zd c (ag a) (e (ah a c.toNat 0) a b c d.2.2.2.1 ((ag d.2.2.2.1):Int) 0 d) else f
def zxc{R:Type}(a:af->ae R):ae R:=
 a (bs [])
def zxd{R:Type}(a:Int)(b:(List Int))(c d:Int)(e:cQ)(f g:Int)(h:ct)(i:af->(List Int)->Int->Int->ct->ae R)(j:Int->(List Int)->Int->Int->cQ->Int->Int->ct->ae R)(l:(List Int)->Int->Int->ct->ae R):ae R:=
 bif g<f then zd g (ag e) (bif(ah e g.toNat (0,bs [],())).1=a then i (ah e g.toNat (0,bs [],())).2.1 b c d h else j a b c d e f (zW zI (g+1)) h) else l b c d h
def zxe{R:Type}(a:af)(b:(List Int))(c d:Int)(e:ct)(f:af->ae R):ae R:=
 f a
def XO{R:Type}(a:(List Int))(b c:Int)(d:ct)(e:(List Int)->Int->Int->ct->ae R):ae R:=
 e a b (zW zI (c+1)) d
def zxf{R:Type}(a:af)(b:af->ae R):ae R:=
 b a
def K9:Nat->Int->(List Int)->Int->Int->cQ->Int->Int->ct->ae (Sum (af×(List Int)×Int×Int×ct) ((List Int)×Int×Int×ct))
 |0,_,_,_,_,_,_,_,_=>none
 |k+1,v0,v1,v2,v3,v4,v5,v6,v7=>zxd v0 v1 v2 v3 v4 v5 v6 v7 (λa0 a1 a2 a3 a4=>some (.inl (a0,a1,a2,a3,a4))) (λa0 a1 a2 a3 a4 a5 a6 a7=>K9 k a0 a1 a2 a3 a4 a5 a6 a7) (λa0 a1 a2 a3=>some (.inr (a0,a1,a2,a3)))
def Hc:Nat->(List Int)->Int->Int->ct->ae (Sum Unit af)
 |0,_,_,_,_=>none
 |k+1,v0,v1,v2,v3=>TL v0 v1 v2 v3 (λa0 a1 a2 a3 a4 a5 a6 a7=>(K9 bE a0 a1 a2 a3 a4 a5 a6 a7).bind λe=>aA (λ(we:(af×(List Int)×Int×Int×ct))=>zxe we.1 we.2.1 we.2.2.1 we.2.2.2.1 we.2.2.2.2 (λa0=>some (.inr a0))) (λ(we:((List Int)×Int×Int×ct))=>XO we.1 we.2.1 we.2.2.1 we.2.2.2 (λa0 a1 a2 a3=>Hc k a0 a1 a2 a3)) e) (some (.inl ()))
def A9(a:ct)(b:Int):ae af:=
 XM a b (λa0 a1 a2 a3=>(Hc bE a0 a1 a2 a3).bind λe=>aA (λ(we:Unit)=>zxc (λa0=>some a0)) (λ(we:af)=>zxf we (λa0=>some a0)) e)
def XD{R:Type}(a:ct)(b:cu)(c:dV)(d:cu->Bool->ae R)(e:(List Int)->Int->Int->ct->cu->dV->cu->cu->ae R):ae R:=
 (A4 b.1).bind λr1=>bif !r1.2 then d (bs [],[],()) false else e a.2.2.1 ((ag a.2.2.1):Int) 0 a b c (bs [],[],()) (r1.1,[],())
def zx5{R:Type}(a:(List Int))(b c:Int)(d:ct)(e:cu)(f:dV)(g h:cu)(i:(List Int)->Int->Int->ct->cu->dV->cu->cu->ae R)(j:ct->dV->cu->cu->ae R):ae R:=
 bif c<b then zd c (ag a) ((wl e (ah a c.toNat (0:Int))).bind λr2=>bif r2.2 then(pJ h (ah a c.toNat 0) r2.1).bind λr3=>i a b (zW zI (c+1)) d e f g r3 else i a b (zW zI (c+1)) d e f g h) else j d f g h
def XE{R:Type}(a:ct)(b:dV)(c d:cu)(e:cu->Bool->ae R):ae R:=
 (A9 a b.1).bind λr4=>(pJ d 39 r4).bind λr5=>e r5 true
def TI:Nat->(List Int)->Int->Int->ct->cu->dV->cu->cu->ae (ct×dV×cu×cu)
 |0,_,_,_,_,_,_,_,_=>none
 |k+1,v0,v1,v2,v3,v4,v5,v6,v7=>zx5 v0 v1 v2 v3 v4 v5 v6 v7 (λa0 a1 a2 a3 a4 a5 a6 a7=>TI k a0 a1 a2 a3 a4 a5 a6 a7) (λa0 a1 a2 a3=>some (a0,a1,a2,a3))
def A7(a:ct)(b:cu)(c:dV):ae (cu×Bool):=
 XD a b c (λa0 a1=>some (a0,a1)) (λa0 a1 a2 a3 a4 a5 a6 a7=>(TI bE a0 a1 a2 a3 a4 a5 a6 a7).bind λe=>XE e.1 e.2.1 e.2.2.1 e.2.2.2 (λa0 a1=>some (a0,a1)))
def Yn{R:Type}(a:bm)(b:af)(c:af->Int->Int->ae R):ae R:=
 bif a.1=2 then(Q2 (4:Int)).bind λr1=>bif(b.size:Int)<r1 then c (bs []) 0 2 else bif 0<=r1 then bif r1<=(b.size:Int) then bif a.1=2 then(Q0 (b.extract 0 r1.toNat) (4:Int)).bind λr2=>(qQ r2.1).bind λr3=>bif !r3.2 then c (bs []) 0 7 else bif !decide (r3.1=a.2.1) then c (bs []) 0 7 else c r2.1 r1 0 else(qQ (b.extract 0 r1.toNat)).bind λr4=>bif !r4.2 then c (bs []) 0 7 else bif !decide (r4.1=a.2.1) then c (bs []) 0 7 else c (b.extract 0 r1.toNat) r1 0 else none else none else bif(b.size:Int)<4 then c (bs []) 0 2 else bif 4<=(b.size:Int) then bif a.1=2 then(Q0 (b.extract 0 ((4:Int)).toNat) (4:Int)).bind λr5=>(qQ r5.1).bind λr6=>bif !r6.2 then c (bs []) 0 7 else bif !decide (r6.1=a.2.1) then c (bs []) 0 7 else c r5.1 4 0 else(qQ (b.extract 0 ((4:Int)).toNat)).bind λr7=>bif !r7.2 then c (bs []) 0 7 else bif !decide (r7.1=a.2.1) then c (bs []) 0 7 else c (b.extract 0 ((4:Int)).toNat) 4 0 else none
def Bg(a:bm)(b:af):ae Kq:=
 Yn a b (λa0 a1 a2=>some (a0,a1,a2))
def Ym{R:Type}(a:bm)(b:af)(c:cu->dV->ae R)(d:af->Int->Int->bm->cu->dV->cu->dV->ae R):ae R:=
 (uK a).bind λr1=>bif !decide (r1.1=0) then c (bs [],[],()) (1,(-1:Int),()) else(Bg a b).bind λr2=>bif !decide (r2.2.2=0) then c (bs [],[],()) (r2.2.2,0,()) else(Q5 a.1 b r2.2.1).bind λr3=>bif !decide (r3.2.2=0) then c (r2.1,[],()) (r3.2.2,1,()) else(Kl r3.1 (0:Int)).bind λr4=>d b r3.2.1 r4 a (bs [],[],()) (0,0,()) (r2.1,[],()) r3.1
def TS{R:Type}(a:af)(b c:Int)(d:bm)(e:cu)(f:dV)(g:cu)(h:dV)(i:af->Int->cu->dV->cu->ae R)(j:af->Int->Int->bm->cu->dV->cu->dV->ae R)(l:af->Int->cu->dV->cu->ae R):ae R:=
 bif !decide (c=0) then(oc d c).bind λr5=>bif !r5.2 then i a b g (9,c,()) g else(LH d.1 r5.1 a b).bind λr6=>bif !decide (r6.2.2=0) then i a b g (r6.2.2,c,()) g else bif(ag g.2.1+ag ([(c,r6.1,())]:List eS))*24<=140737488355328 then(Kl h c).bind λr7=>j a r6.2.1 r7 d e f (g.1,g.2.1++([(c,r6.1,())]:List eS),()) h else none else l a b e f g
def zy5{R:Type}(a:af)(b:Int)(c:cu)(d:dV)(e:cu)(f:cu->dV->ae R):ae R:=
 f c d
def zy6{R:Type}(a:af)(b:Int)(c:cu)(d:dV)(e:cu)(f:cu->dV->ae R):ae R:=
 bif b<(a.size:Int) then f e (12,129,()) else f e (0,0,())
def JZ:Nat->af->Int->Int->bm->cu->dV->cu->dV->ae (Sum yT yT)
 |0,_,_,_,_,_,_,_,_=>none
 |k+1,v0,v1,v2,v3,v4,v5,v6,v7=>TS v0 v1 v2 v3 v4 v5 v6 v7 (λa0 a1 a2 a3 a4=>some (.inl (a0,a1,a2,a3,a4))) (λa0 a1 a2 a3 a4 a5 a6 a7=>JZ k a0 a1 a2 a3 a4 a5 a6 a7) (λa0 a1 a2 a3 a4=>some (.inr (a0,a1,a2,a3,a4)))
def wy(a:bm)(b:af):ae (cu×dV):=
 Ym a b (λa0 a1=>some (a0,a1)) (λa0 a1 a2 a3 a4 a5 a6 a7=>(JZ bE a0 a1 a2 a3 a4 a5 a6 a7).bind λe=>aA (λ(we:yT)=>zy5 we.1 we.2.1 we.2.2.1 we.2.2.2.1 we.2.2.2.2 (λa0 a1=>some (a0,a1))) (λ(we:yT)=>zy6 we.1 we.2.1 we.2.2.1 we.2.2.2.1 we.2.2.2.2 (λa0 a1=>some (a0,a1))) e)
def YF{R:Type}(a:Int)(b:af)(c:af->Bool->ae R):ae R:=
 (wq b).bind λr1=>bif !r1 then c (bs []) false else bif a=1 then c b true else bif a=2 then(Q1 b).bind λr2=>c r2.1 r2.2 else c (bs []) false
def Bl(a:Int)(b:af):ae qT:=
 YF a b (λa0 a1=>some (a0,a1))
def YE{R:Type}(a b:af)(c:af->ae R):ae R:=
 (Vr b a).bind λr1=>c r1.2
def rK(a b:af):ae af:=
 YE a b (λa0=>some a0)
def YD{R:Type}(a:bm)(b:cu)(c:af->dV->ae R)(d:cQ->Int->Int->bm->dV->af->ae R):ae R:=
 (yG a b).bind λr1=>bif !decide (r1.1=0) then c (bs []) r1 else(Bl a.1 b.1).bind λr2=>(rK r2.1 (bs [])).bind λr3=>(AZ b).bind λr4=>(Q6 a.1 r4).bind λr5=>(rK r5.1 r3).bind λr6=>d b.2.1 ((ag b.2.1):Int) 0 a (0,0,()) r6
def zyb{R:Type}(a:cQ)(b c:Int)(d:bm)(e:dV)(f:af)(g:cQ->Int->Int->bm->dV->af->ae R)(h:dV->af->ae R):ae R:=
 bif c<b then zd c (ag a) ((oc d (ah a c.toNat (0,bs [],())).1).bind λr7=>(Hu d.1 r7.1 (ah a c.toNat (0,bs [],())).2.1).bind λr8=>(rK r8.1 f).bind λr9=>g a b (zW zI (c+1)) d e r9) else h e f
def zyc{R:Type}(a:dV)(b:af)(c:af->dV->ae R):ae R:=
 (z57 b).bind λum=>c um.1 (0,0,())
def TT:Nat->cQ->Int->Int->bm->dV->af->ae (dV×af)
 |0,_,_,_,_,_,_=>none
 |k+1,v0,v1,v2,v3,v4,v5=>zyb v0 v1 v2 v3 v4 v5 (λa0 a1 a2 a3 a4 a5=>TT k a0 a1 a2 a3 a4 a5) (λa0 a1=>some (a0,a1))
def uL(a:bm)(b:cu):ae (af×dV):=
 YD a b (λa0 a1=>some (a0,a1)) (λa0 a1 a2 a3 a4 a5=>(TT bE a0 a1 a2 a3 a4 a5).bind λe=>zyc e.1 e.2 (λa0 a1=>some (a0,a1)))
def XY{R:Type}(a:dg)(b c:bm)(d:dU->dU->Int->ae R):ae R:=
 (oc b a.2.1).bind λr1=>(oc c a.2.2.1).bind λr2=>bif a.1=3 then bif a.1=2 then bif !decide (a.2.1=0) then d r1.1 r2.1 9 else bif !decide (a.2.2.1=0) then d r1.1 r2.1 9 else d r1.1 r2.1 0 else bif !decide (a.2.1=0) then d r1.1 r2.1 9 else bif !r2.2 then d r1.1 r2.1 9 else d r1.1 r2.1 0 else bif a.1=2 then bif !r1.2 then d r1.1 r2.1 9 else bif !decide (a.2.2.1=0) then d r1.1 r2.1 9 else d r1.1 r2.1 0 else bif !r1.2 then d r1.1 r2.1 9 else bif !r2.2 then d r1.1 r2.1 9 else d r1.1 r2.1 0
def Bc(a:dg)(b c:bm):ae (dU×dU×Int):=
 XY a b c (λa0 a1 a2=>some (a0,a1,a2))
def XZ{R:Type}(a:dU)(b:Bool->ae R):ae R:=
 bif a.2.1=1 then b (decide (a.2.2.1=1)) else b false
def qR(a:dU):ae Bool:=
 XZ a (λa0=>some a0)
def X3{R:Type}(a:dZ)(b c:dU)(d:Int->ae R)(e:dZ->Int->Int->dU->dU->ae R):ae R:=
 (LO a).bind λr1=>bif !decide (r1.1=0) then d 15 else bif((ag a):Int)=0 then d 15 else e a ((ag a):Int) 0 b c
def zxk{R:Type}(a:dZ)(b c:Int)(d e:dU)(f:Int->ae R)(g:dZ->Int->Int->dU->dU->ae R)(h:ae R):ae R:=
 bif c<b then zd c (ag a) ((gP d (ah a c.toNat (bs [],bs [],())).1).bind λr2=>bif !decide (r2=0) then f r2 else(gP e (ah a c.toNat (bs [],bs [],())).2.1).bind λr3=>bif !decide (r3=0) then f r3 else g a b (zW zI (c+1)) d e) else h
def zxl{R:Type}(a:Int)(b:Int->ae R):ae R:=
 b a
def zxm{R:Type}(a:Int->ae R):ae R:=
 a 0
def TM:Nat->dZ->Int->Int->dU->dU->ae (Sum Int Unit)
 |0,_,_,_,_,_=>none
 |k+1,v0,v1,v2,v3,v4=>zxk v0 v1 v2 v3 v4 (λa0=>some (.inl a0)) (λa0 a1 a2 a3 a4=>TM k a0 a1 a2 a3 a4) (some (.inr ()))
def uJ(a:dZ)(b c:dU):ae Int:=
 X3 a b c (λa0=>some a0) (λa0 a1 a2 a3 a4=>(TM bE a0 a1 a2 a3 a4).bind λe=>aA (λ(we:Int)=>zxl we (λa0=>some a0)) (λ(we:Unit)=>zxm (λa0=>some a0)) e)
def XX{R:Type}(a:dg)(b c:bm)(d:Int->ae R):ae R:=
 bif a.1<1 then d 1 else bif 5<a.1 then d 1 else(Bc a b c).bind λr1=>bif !decide (r1.2.2=0) then d r1.2.2 else bif !decide (a.2.2.2.1=bs []) then bif !decide (a.1=3) then d 3 else bif 0<((ag a.2.2.2.2.1):Int) then bif !decide (a.1=5) then d 3 else bif a.1=1 then(tR r1.2.1 r1.1).bind λr2=>bif !r2 then d 6 else d 0 else bif a.1=3 then(gP r1.2.1 a.2.2.2.1).bind λr3=>d r3 else bif a.1=4 then(qR r1.1).bind λr4=>bif !r4 then d 6 else(qR r1.2.1).bind λr5=>bif !r5 then d 6 else d 0 else bif a.1=5 then(uJ a.2.2.2.2.1 r1.1 r1.2.1).bind λr6=>d r6 else d 0 else bif a.1=1 then(tR r1.2.1 r1.1).bind λr7=>bif !r7 then d 6 else d 0 else bif a.1=3 then(gP r1.2.1 a.2.2.2.1).bind λr8=>d r8 else bif a.1=4 then(qR r1.1).bind λr9=>bif !r9 then d 6 else(qR r1.2.1).bind λum=>bif !um then d 6 else d 0 else bif a.1=5 then(uJ a.2.2.2.2.1 r1.1 r1.2.1).bind λvC=>d vC else d 0 else bif 0<((ag a.2.2.2.2.1):Int) then bif !decide (a.1=5) then d 3 else bif a.1=1 then(tR r1.2.1 r1.1).bind λyj=>bif !yj then d 6 else d 0 else bif a.1=3 then(gP r1.2.1 a.2.2.2.1).bind λvP=>d vP else bif a.1=4 then(qR r1.1).bind λCO=>bif !CO then d 6 else(qR r1.2.1).bind λAp=>bif !Ap then d 6 else d 0 else bif a.1=5 then(uJ a.2.2.2.2.1 r1.1 r1.2.1).bind λCP=>d CP else d 0 else bif a.1=1 then(tR r1.2.1 r1.1).bind λEC=>bif !EC then d 6 else d 0 else bif a.1=3 then(gP r1.2.1 a.2.2.2.1).bind λED=>d ED else bif a.1=4 then(qR r1.1).bind λzQ=>bif !zQ then d 6 else(qR r1.2.1).bind λCQ=>bif !CQ then d 6 else d 0 else bif a.1=5 then(uJ a.2.2.2.2.1 r1.1 r1.2.1).bind λCi=>d Ci else d 0
def ww(a:dg)(b c:bm):ae Int:=
 XX a b c (λa0=>some a0)
def XW{R:Type}(a:dg)(b:bm)(c:af)(d:eS->Int->ae R):ae R:=
 bif a.1=1 then d (a.2.2.1,c,()) 0 else bif a.1=2 then d (0,bs [],()) 0 else bif a.1=3 then d (a.2.2.1,a.2.2.2.1,()) 0 else bif a.1=4 then(oc b a.2.2.1).bind λr1=>bif !r1.2 then d (0,bs [],()) 9 else(LP c r1.1.2.2.2.1).bind λr2=>bif !r2.2 then d (0,bs [],()) 5 else d (a.2.2.1,r2.1,()) 0 else bif a.1=5 then(LN a.2.2.2.2.1 c).bind λr3=>bif !r3.2 then d (0,bs [],()) 15 else d (a.2.2.1,r3.1,()) 0 else d (0,bs [],()) 1
def wv(a:dg)(b:bm)(c:af):ae (eS×Int):=
 XW a b c (λa0 a1=>some (a0,a1))
def YV{R:Type}(a:mF)(b c:bm)(d:Bool->ae R):ae R:=
 (qQ a.1).bind λr1=>(qQ a.2.1).bind λr2=>bif r1.2 then bif r2.2 then bif r1.1=b.2.1 then bif r2.1=c.2.1 then(wo a.1).bind λr3=>(wo a.2.1).bind λr4=>d (r3==r4) else d false else d false else d false else d false
def wD(a:mF)(b c:bm):ae Bool:=
 YV a b c (λa0=>some a0)
def YJ{R:Type}(a:c9)(b c:bm)(d:Bu->Int->Int->c9->bm->bm->ae R):ae R:=
 d ([b,c]:List bm) ((ag ([b,c]:List bm)):Int) 0 a b c
def YK{R:Type}(a:Bu)(b c:Int)(d:c9)(e f:bm)(g:Int->Int->Int->c9->bm->bm->ae R)(h:Bu->Int->Int->c9->bm->bm->ae R)(i:c9->bm->bm->ae R):ae R:=
 bif c<b then zd c (ag a) ((uK (ah a c.toNat (0,0,[],()))).bind λr1=>bif !decide (r1.1=0) then g 1 1 c d e f else h a b (zW zI (c+1)) d e f) else i d e f
def zyg{R:Type}(a b c:Int)(d:c9)(e f:bm)(g:Int->Int->Int->ae R):ae R:=
 g a b c
def YL{R:Type}(a:c9)(b c:bm)(d:Int->Int->Int->ae R)(e:dZ->Int->Int->c9->bm->bm->sL->ae R):ae R:=
 bif 256<((ag a.1):Int) then d 5 2 256 else e a.1 ((ag a.1):Int) 0 a b c []
def zyh{R:Type}(a:dZ)(b c:Int)(d:c9)(e f:bm)(g:sL)(h:Int->Int->Int->c9->bm->bm->ae R)(i:dZ->Int->Int->c9->bm->bm->sL->ae R)(j:c9->bm->bm->ae R):ae R:=
 bif c<b then zd c (ag a) ((wD (ah a c.toNat (bs [],bs [],())) e f).bind λr2=>bif !r2 then h (7:Int) (2:Int) c d e f else bif nB (oo .str) false g (ah a c.toNat (bs [],bs [],())).1 then h (10:Int) (2:Int) c d e f else bif nC (oo .str) g (ah a c.toNat (bs [],bs [],())).1 then none else i a b (zW zI (c+(1:Int))) d e f (g++ [((ah a c.toNat (bs [],bs [],())).1,true)])) else j d e f
def zyi{R:Type}(a b c:Int)(d:c9)(e f:bm)(g:Int->Int->Int->ae R):ae R:=
 g a b c
def YM{R:Type}(a:c9)(b c:bm)(d:Int->Int->Int->ae R)(e:js->Int->Int->bm->bm->dV->dV->ae R):ae R:=
 bif 256<((ag a.2.1):Int) then d 5 3 256 else e a.2.1 ((ag a.2.1):Int) 0 b c (0,0,()) (0,0,())
def zyj{R:Type}(a:js)(b c:Int)(d e:bm)(f g:dV)(h:Int->Int->Int->ae R)(i:js->Int->Int->bm->bm->dV->dV->ae R)(j:ae R):ae R:=
 bif c<b then zd c (ag a) ((ww (ah a c.toNat (0,0,0,bs [],[],())) d e).bind λr3=>bif !decide (r3=0) then h r3 3 c else(CC ([(ah a c.toNat (0,0,0,bs [],[],())).2.1]:List Int)).bind λr4=>(CC ([(ah a c.toNat (0,0,0,bs [],[],())).2.2.1]:List Int)).bind λr5=>(Ai f r4).bind λr6=>bif !(decide (r6.1=0)&&(decide (r6.2.1=0)&&true)) then h 10 3 c else(Ai g r5).bind λr7=>bif !(decide (r7.1=0)&&(decide (r7.2.1=0)&&true)) then h 10 3 c else(Bn f r4).bind λr8=>(Bn g r5).bind λr9=>i a b (zW zI (c+1)) d e r8 r9) else j
def zyk{R:Type}(a b c:Int)(d:Int->Int->Int->ae R):ae R:=
 d a b c
def zyl{R:Type}(a:Int->Int->Int->ae R):ae R:=
 a 0 0 0
def Lf:Nat->Bu->Int->Int->c9->bm->bm->ae (Sum tX tW)
 |0,_,_,_,_,_,_=>none
 |k+1,v0,v1,v2,v3,v4,v5=>YK v0 v1 v2 v3 v4 v5 (λa0 a1 a2 a3 a4 a5=>some (.inl (a0,a1,a2,a3,a4,a5))) (λa0 a1 a2 a3 a4 a5=>Lf k a0 a1 a2 a3 a4 a5) (λa0 a1 a2=>some (.inr (a0,a1,a2)))
def Lg:Nat->dZ->Int->Int->c9->bm->bm->sL->ae (Sum tX tW)
 |0,_,_,_,_,_,_,_=>none
 |k+1,v0,v1,v2,v3,v4,v5,v6=>zyh v0 v1 v2 v3 v4 v5 v6 (λa0 a1 a2 a3 a4 a5=>some (.inl (a0,a1,a2,a3,a4,a5))) (λa0 a1 a2 a3 a4 a5 a6=>Lg k a0 a1 a2 a3 a4 a5 a6) (λa0 a1 a2=>some (.inr (a0,a1,a2)))
def TU:Nat->js->Int->Int->bm->bm->dV->dV->ae (Sum qw Unit)
 |0,_,_,_,_,_,_,_=>none
 |k+1,v0,v1,v2,v3,v4,v5,v6=>zyj v0 v1 v2 v3 v4 v5 v6 (λa0 a1 a2=>some (.inl (a0,a1,a2))) (λa0 a1 a2 a3 a4 a5 a6=>TU k a0 a1 a2 a3 a4 a5 a6) (some (.inr ()))
def yM(a:c9)(b c:bm):ae qw:=
 YJ a b c (λa0 a1 a2 a3 a4 a5=>(Lf bE a0 a1 a2 a3 a4 a5).bind λe=>aA (λ(we:tX)=>zyg we.1 we.2.1 we.2.2.1 we.2.2.2.1 we.2.2.2.2.1 we.2.2.2.2.2 (λa0 a1 a2=>some (a0,a1,a2))) (λ(we:tW)=>YL we.1 we.2.1 we.2.2 (λa0 a1 a2=>some (a0,a1,a2)) (λa0 a1 a2 a3 a4 a5 a6=>(Lg bE a0 a1 a2 a3 a4 a5 a6).bind λe=>aA (λ(we:tX)=>zyi we.1 we.2.1 we.2.2.1 we.2.2.2.1 we.2.2.2.2.1 we.2.2.2.2.2 (λa0 a1 a2=>some (a0,a1,a2))) (λ(we:tW)=>YM we.1 we.2.1 we.2.2 (λa0 a1 a2=>some (a0,a1,a2)) (λa0 a1 a2 a3 a4 a5 a6=>(TU bE a0 a1 a2 a3 a4 a5 a6).bind λe=>aA (λ(we:qw)=>zyk we.1 we.2.1 we.2.2 (λa0 a1 a2=>some (a0,a1,a2))) (λ(we:Unit)=>zyl (λa0 a1 a2=>some (a0,a1,a2))) e)) e)) e)
def YU{R:Type}(a:c9)(b:af)(c:af->dZ->Int->Int->ae R):ae R:=
 c b a.1 ((ag a.1):Int) 0
def zyw{R:Type}(a:af)(b:dZ)(c d:Int)(e:af->Bool->ae R)(f:af->dZ->Int->Int->ae R)(g:ae R):ae R:=
 bif d<c then zd d (ag b) (bif(ah b d.toNat (bs [],bs [],())).1=a then e (ah b d.toNat (bs [],bs [],())).2.1 true else f a b c (zW zI (d+1))) else g
def zyx{R:Type}(a:af)(b:Bool)(c:af->Bool->ae R):ae R:=
 c a b
def zyy{R:Type}(a:af->Bool->ae R):ae R:=
 a (bs []) false
def TY:Nat->af->dZ->Int->Int->ae (Sum qT Unit)
 |0,_,_,_,_=>none
 |k+1,v0,v1,v2,v3=>zyw v0 v1 v2 v3 (λa0 a1=>some (.inl (a0,a1))) (λa0 a1 a2 a3=>TY k a0 a1 a2 a3) (some (.inr ()))
def Bm(a:c9)(b:af):ae qT:=
 YU a b (λa0 a1 a2 a3=>(TY bE a0 a1 a2 a3).bind λe=>aA (λ(we:qT)=>zyx we.1 we.2 (λa0 a1=>some (a0,a1))) (λ(we:Unit)=>zyy (λa0 a1=>some (a0,a1))) e)
def YS{R:Type}(a:c9)(b:Int)(c:Int->js->Int->Int->dg->ae R):ae R:=
 c b a.2.1 ((ag a.2.1):Int) 0 (0,0,0,bs [],[],())
def zys{R:Type}(a:Int)(b:js)(c d:Int)(e:dg)(f:Bool->dg->ae R)(g:Int->js->Int->Int->dg->ae R)(h:dg->ae R):ae R:=
 bif d<c then zd d (ag b) (bif(ah b d.toNat (0,0,0,bs [],[],())).2.1=a then f true (ah b d.toNat (0,0,0,bs [],[],())) else g a b c (zW zI (d+1)) e) else h e
def zyt{R:Type}(a:Bool)(b:dg)(c:dg->Bool->ae R):ae R:=
 c b a
def zyu{R:Type}(a:dg)(b:dg->Bool->ae R):ae R:=
 b (0,0,0,bs [],[],()) false
def TX:Nat->Int->js->Int->Int->dg->ae (Sum (Bool×dg) dg)
 |0,_,_,_,_,_=>none
 |k+1,v0,v1,v2,v3,v4=>zys v0 v1 v2 v3 v4 (λa0 a1=>some (.inl (a0,a1))) (λa0 a1 a2 a3 a4=>TX k a0 a1 a2 a3 a4) (λa0=>some (.inr a0))
def wC(a:c9)(b:Int):ae (dg×Bool):=
 YS a b (λa0 a1 a2 a3 a4=>(TX bE a0 a1 a2 a3 a4).bind λe=>aA (λ(we:(Bool×dg))=>zyt we.1 we.2 (λa0 a1=>some (a0,a1))) (λ(we:dg)=>zyu we (λa0 a1=>some (a0,a1))) e)
def YP{R:Type}(a:c9)(b c:bm)(d:cu)(e:cu->dV->ae R)(f:js->Int->Int->c9->bm->cu->cu->dV->cu->ae R):ae R:=
 (yM a b c).bind λr1=>bif !decide (r1.1=0) then e (bs [],[],()) (1,(-1:Int),()) else(yG b d).bind λr2=>bif !decide (r2.1=0) then e (bs [],[],()) r2 else(Bm a d.1).bind λr3=>bif !r3.2 then e (bs [],[],()) (7,0,()) else f a.2.1 ((ag a.2.1):Int) 0 a c d (bs [],[],()) (0,0,()) (r3.1,[],())
def zyn{R:Type}(a:js)(b c:Int)(d:c9)(e:bm)(f g:cu)(h:dV)(i:cu)(j:js->Int->Int->c9->bm->cu->cu->dV->cu->ae R)(l:c9->bm->cu->cu->dV->cu->ae R):ae R:=
 bif c<b then zd c (ag a) (bif(ah a c.toNat (0,0,0,bs [],[],())).1=3 then(pJ i (ah a c.toNat (0,0,0,bs [],[],())).2.2.1 (ah a c.toNat (0,0,0,bs [],[],())).2.2.2.1).bind λr4=>j a b (zW zI (c+1)) d e f g h r4 else j a b (zW zI (c+1)) d e f g h i) else l d e f g h i
def YQ{R:Type}(a:c9)(b:bm)(c d:cu)(e:dV)(f:cu)(g:cQ->Int->Int->c9->bm->cu->dV->cu->ae R):ae R:=
 g c.2.1 ((ag c.2.1):Int) 0 a b d e f
def zyo{R:Type}(a:cQ)(b c:Int)(d:c9)(e:bm)(f:cu)(g:dV)(h:cu)(i:cu->dV->cu->ae R)(j:cQ->Int->Int->c9->bm->cu->dV->cu->ae R)(l:cu->dV->cu->ae R):ae R:=
 bif c<b then zd c (ag a) ((wC d (ah a c.toNat (0,bs [],())).1).bind λr5=>bif !r5.2 then i (bs [],[],()) (9,(ah a c.toNat (0,bs [],())).1,()) h else(wv r5.1 e (ah a c.toNat (0,bs [],())).2.1).bind λr6=>bif !decide (r6.2=0) then i (bs [],[],()) (r6.2,(ah a c.toNat (0,bs [],())).1,()) h else bif !decide (r6.1.1=0) then(pJ h r6.1.1 r6.1.2.1).bind λr7=>j a b (zW zI (c+1)) d e f g r7 else j a b (zW zI (c+1)) d e f g h) else l f g h
def zyp{R:Type}(a:cu)(b:dV)(c:cu)(d:cu->dV->ae R):ae R:=
 d a b
def zyq{R:Type}(a:cu)(b:dV)(c:cu)(d:cu->dV->ae R):ae R:=
 d c (0,0,())
def TV:Nat->js->Int->Int->c9->bm->cu->cu->dV->cu->ae (c9×bm×cu×cu×dV×cu)
 |0,_,_,_,_,_,_,_,_,_=>none
 |k+1,v0,v1,v2,v3,v4,v5,v6,v7,v8=>zyn v0 v1 v2 v3 v4 v5 v6 v7 v8 (λa0 a1 a2 a3 a4 a5 a6 a7 a8=>TV k a0 a1 a2 a3 a4 a5 a6 a7 a8) (λa0 a1 a2 a3 a4 a5=>some (a0,a1,a2,a3,a4,a5))
def TW:Nat->cQ->Int->Int->c9->bm->cu->dV->cu->ae (Sum yS yS)
 |0,_,_,_,_,_,_,_,_=>none
 |k+1,v0,v1,v2,v3,v4,v5,v6,v7=>zyo v0 v1 v2 v3 v4 v5 v6 v7 (λa0 a1 a2=>some (.inl (a0,a1,a2))) (λa0 a1 a2 a3 a4 a5 a6 a7=>TW k a0 a1 a2 a3 a4 a5 a6 a7) (λa0 a1 a2=>some (.inr (a0,a1,a2)))
def yN(a:c9)(b c:bm)(d:cu):ae (cu×dV):=
 YP a b c d (λa0 a1=>some (a0,a1)) (λa0 a1 a2 a3 a4 a5 a6 a7 a8=>(TV bE a0 a1 a2 a3 a4 a5 a6 a7 a8).bind λe=>YQ e.1 e.2.1 e.2.2.1 e.2.2.2.1 e.2.2.2.2.1 e.2.2.2.2.2 (λa0 a1 a2 a3 a4 a5 a6 a7=>(TW bE a0 a1 a2 a3 a4 a5 a6 a7).bind λe=>aA (λ(we:yS)=>zyp we.1 we.2.1 we.2.2 (λa0 a1=>some (a0,a1))) (λ(we:yS)=>zyq we.1 we.2.1 we.2.2 (λa0 a1=>some (a0,a1))) e))
def XT{R:Type}(a:er)(b:Int->Int->Int->ae R)(c:yU->Int->er->ae R):ae R:=
 bif a.2.1<1 then b 5 2 0 else bif 65535<a.2.1 then b 5 2 0 else c a.1 0 a
def La{R:Type}(a:yU)(b:Int)(c:er)(d:Int->Int->Int->ae R)(e:yU->Int->er->ae R)(f:ae R):ae R:=
 bif b<2 then zd b 2 ((A8 (ah a b.toNat ((0,0,[],()),([],[],()),[],[],()))).bind λr1=>bif !decide (r1.1=0) then d r1.1 b 1 else zd (zW zI (1-b)) 2 ((yM (ah a b.toNat ((0,0,[],()),([],[],()),[],[],())).2.1 (ah a b.toNat ((0,0,[],()),([],[],()),[],[],())).1 (ah c.1 (zW zI (1-b)).toNat ((0,0,[],()),([],[],()),[],[],())).1).bind λr2=>bif !decide (r2.1=0) then d r2.1 b 2 else e a (zW zI (b+1)) c)) else f
def zxh{R:Type}(a b c:Int)(d:Int->Int->Int->ae R):ae R:=
 d a b c
def zxi{R:Type}(a:Int->Int->Int->ae R):ae R:=
 a 0 0 0
def JY:Nat->yU->Int->er->ae (Sum qw Unit)
 |0,_,_,_=>none
 |k+1,v0,v1,v2=>La v0 v1 v2 (λa0 a1 a2=>some (.inl (a0,a1,a2))) (λa0 a1 a2=>JY k a0 a1 a2) (some (.inr ()))
def yL(a:er):ae qw:=
 XT a (λa0 a1 a2=>some (a0,a1,a2)) (λa0 a1 a2=>(JY bE a0 a1 a2).bind λe=>aA (λ(we:qw)=>zxh we.1 we.2.1 we.2.2 (λa0 a1 a2=>some (a0,a1,a2))) (λ(we:Unit)=>zxi (λa0 a1 a2=>some (a0,a1,a2))) e)
def XV{R:Type}(a:cu)(b:dV)(c:ct)(d:er)(e:Int->af->ae R):ae R:=
 (A7 c a b).bind λr1=>bif !r1.2 then e 3 (bs []) else(uL c.1 r1.1).bind λr2=>bif r2.1=bs [] then e 3 (bs []) else bif d.2.1<(r2.1.size:Int) then e 3 (bs []) else e 2 r2.1
def sK(a:cu)(b:dV)(c:ct)(d:er):ae Zt3:=
 XV a b c d (λa0 a1=>some (a0,a1))
def XU{R:Type}(a:er)(b:Int)(c:af)(d:Int->af->ae R):ae R:=
 (yL a).bind λr1=>bif !decide (r1.1=0) then d 0 (bs []) else bif b<0 then d 0 (bs []) else bif 1<b then d 0 (bs []) else zd b 2 (zd (zW zI (1-b)) 2 ((wy (ah a.1 b.toNat ((0,0,[],()),([],[],()),[],[],())).1 c).bind λr2=>bif !decide (r2.2.1=0) then(sK r2.1 r2.2 (ah a.1 b.toNat ((0,0,[],()),([],[],()),[],[],())) a).bind λr3=>d r3.1 r3.2 else(yN (ah a.1 b.toNat ((0,0,[],()),([],[],()),[],[],())).2.1 (ah a.1 b.toNat ((0,0,[],()),([],[],()),[],[],())).1 (ah a.1 (zW zI (1-b)).toNat ((0,0,[],()),([],[],()),[],[],())).1 r2.1).bind λr4=>bif !decide (r4.2.1=0) then(sK r2.1 r4.2 (ah a.1 b.toNat ((0,0,[],()),([],[],()),[],[],())) a).bind λr5=>d r5.1 r5.2 else(uL (ah a.1 (zW zI (1-b)).toNat ((0,0,[],()),([],[],()),[],[],())).1 r4.1).bind λr6=>bif a.2.1<(r6.1.size:Int) then(sK r2.1 (5,129,()) (ah a.1 b.toNat ((0,0,[],()),([],[],()),[],[],())) a).bind λr7=>d r7.1 r7.2 else d 1 r6.1))
def wu(a:er)(b:Int)(c:af):ae Zt3:=
 XU a b c (λa0 a1=>some (a0,a1))
def zsf{R:Type}(a:ct)(b:js->js->Int->Int->ct->ct->ae R):ae R:=
 bif ag a.1.2.2.1*40<=140737488355328 then bif ag a.2.1.1*32<=140737488355328 then bif 0<=((ag a.2.1.2.1):Int) then bif((ag a.2.1.2.1):Int)*64<=140737488355328 then b [] a.2.1.2.1 ((ag a.2.1.2.1):Int) 0 ((a.1.1,a.1.2.1,a.1.2.2.1,()),(a.2.1.1,a.2.1.2.1,()),a.2.2.1,a.2.2.2.1,()) ((0,0,[],()),([],[],()),[],[],()) else none else none else none else none
def IP{R:Type}(a b:js)(c d:Int)(e f:ct)(g:js->js->Int->Int->ct->ct->ae R)(h:js->ct->ct->ae R):ae R:=
 bif d<c then zd d (ag b) (bif ag (ah b d.toNat ((0:Int),(0:Int),(0:Int),bs [],([]:List mF),())).2.2.2.2.1*32<=140737488355328 then bif(ag a+ag ([((ah b d.toNat ((0:Int),(0:Int),(0:Int),bs [],([]:List mF),())).1,(ah b d.toNat ((0:Int),(0:Int),(0:Int),bs [],([]:List mF),())).2.1,(ah b d.toNat ((0:Int),(0:Int),(0:Int),bs [],([]:List mF),())).2.2.1,(ah b d.toNat ((0:Int),(0:Int),(0:Int),bs [],([]:List mF),())).2.2.2.1,(ah b d.toNat ((0:Int),(0:Int),(0:Int),bs [],([]:List mF),())).2.2.2.2.1,())]:List dg))*64<=140737488355328 then g (a++([((ah b d.toNat (0,0,0,bs [],[],())).1,(ah b d.toNat (0,0,0,bs [],[],())).2.1,(ah b d.toNat (0,0,0,bs [],[],())).2.2.1,(ah b d.toNat (0,0,0,bs [],[],())).2.2.2.1,(ah b d.toNat (0,0,0,bs [],[],())).2.2.2.2.1,())]:List dg)) b c (zW zI (d+1)) e f else none else none) else h a e f
def zsg{R:Type}(a:js)(b c:ct)(d:ct->ae R):ae R:=
 bif ag b.2.2.1*8<=140737488355328 then bif ag b.2.2.2.1*24<=140737488355328 then d (b.1,(b.2.1.1,a,()),b.2.2.1,b.2.2.2.1,()) else none else none
def Um:Nat->js->js->Int->Int->ct->ct->ae (js×ct×ct)
 |0,_,_,_,_,_,_=>none
 |k+1,v0,v1,v2,v3,v4,v5=>IP v0 v1 v2 v3 v4 v5 (λa0 a1 a2 a3 a4 a5=>Um k a0 a1 a2 a3 a4 a5) (λa0 a1 a2=>some (a0,a1,a2))
def L3(a:ct):ae ct:=
 zsf a (λa0 a1 a2 a3 a4 a5=>(Um bE a0 a1 a2 a3 a4 a5).bind λe=>zsg e.1 e.2.1 e.2.2 (λa0=>some a0))
def zsc{R:Type}(a:er)(b:Int->ae R)(c:Int->er->(er×(ae cR×ae cR)×Int)->ae R):ae R:=
 (yL a).bind λr1=>bif !decide (r1.1=0) then b 1 else c 0 a (a,((none,none),0))
def Lr{R:Type}(a:Int)(b:er)(c:(er×(ae cR×ae cR)×Int))(d:Int->er->(er×(ae cR×ae cR)×Int)->ae R)(e:(er×(ae cR×ae cR)×Int)->ae R):ae R:=
 bif a<2 then zd a 2 ((L3 (ah b.1 a.toNat ((0,0,[],()),([],[],()),[],[],()))).bind λr2=>zd a 2 ((LZ b.2.1).bind λr3=>aA (λ(CR:Int)=>zd a 2 (d (zW zI (a+1)) b ((cK c.1.1 a.toNat r2,c.1.2.1,()),(n3 a.toNat none c.2.1,c.2.2)))) (λ(CR:yQ)=>zd a 2 (d (zW zI (a+1)) b ((cK c.1.1 a.toNat r2,c.1.2.1,()),(n3 a.toNat (some CR.2) c.2.1,c.2.2)))) r3)) else e c
def IM{R:Type}(a:(er×(ae cR×ae cR)×Int))(b:Int->(er×(ae cR×ae cR)×Int)->ae R):ae R:=
 b 0 a
def z91:Nat->Int->er->(er×(ae cR×ae cR)×Int)->ae (er×(ae cR×ae cR)×Int)
 |0,_,_,_=>none
 |k+1,v0,v1,v2=>Lr v0 v1 v2 (λa0 a1 a2=>z91 k a0 a1 a2) (λa0=>some a0)
def HA(a:er):ae (Sum Int (Int×(er×(ae cR×ae cR)×Int))):=
 zsc a (λa0=>some (.inl a0)) (λa0 a1 a2=>(z91 bE a0 a1 a2).bind λe=>IM e (λa0 a1=>some (.inr (a0,a1))))
def zsd{R:Type}(a:Int)(b:Bool->ae R):ae R:=
 bif a=0 then b true else b (decide (a=1))
def HB(a:Int):ae Bool:=
 zsd a (λa0=>some a0)
def zsa{R:Type}(a:(er×(ae cR×ae cR)×Int))(b:Int)(c:af)(d:uR->(er×(ae cR×ae cR)×Int)->ae R):ae R:=
 (wu a.1 b c).bind λr1=>bif r1.1=3 then d (b,r1.1,bs [],zW zI (a.2.2+1),()) (a.1,(a.2.1,zW zI (a.2.2+1))) else bif r1.1=1 then(Hz r1.2).bind λr2=>d (zW zI (1-b),r1.1,r2.1,a.2.2,()) a else(Hz r1.2).bind λr3=>d (b,r1.1,r3.1,a.2.2,()) a
def Kn(a:(er×(ae cR×ae cR)×Int))(b:Int)(c:af):ae (uR×(er×(ae cR×ae cR)×Int)):=
 zsa a b c (λa0 a1=>some (a0,a1))
def zs8{R:Type}(a:(er×(ae cR×ae cR)×Int))(b:eS)(c:mY->(er×(ae cR×ae cR)×Int)->ae R)(d:mY->Bool->(List af)->Int->Int->(er×(ae cR×ae cR)×Int)->eS->ae R):ae R:=
 (HB b.1).bind λr1=>bif !r1 then c [] a else zd b.1 2 ((getM b.1.toNat a.2.1).bind λm2=>(Hy m2 b.2.1).bind λr3=>d [] r3.2.1 r3.1 ((ag r3.1):Int) 0 (a.1,(n3 b.1.toNat (some r3.2.2) a.2.1,a.2.2)) b)
def IL{R:Type}(a:mY)(b:Bool)(c:(List af))(d e:Int)(f:(er×(ae cR×ae cR)×Int))(g:eS)(h:mY->Bool->(List af)->Int->Int->(er×(ae cR×ae cR)×Int)->eS->ae R)(i:mY->Bool->(er×(ae cR×ae cR)×Int)->eS->ae R):ae R:=
 bif e<d then zd e (ag c) ((Kn f g.1 (ah c e.toNat (bs []))).bind λr4=>bif(ag a+ag ([r4.1]:List uR))*40<=140737488355328 then h (a++([r4.1]:List uR)) b c d (zW zI (e+1)) r4.2 g else none) else i a b f g
def Ul{R:Type}(a:mY)(b:Bool)(c:(er×(ae cR×ae cR)×Int))(d:eS)(e:mY->(er×(ae cR×ae cR)×Int)->ae R):ae R:=
 bif b then bif(ag a+ag ([(d.1,(4:Int),bs [],c.2.2,())]:List uR))*40<=140737488355328 then e (a++([(d.1,4,bs [],c.2.2,())]:List uR)) c else none else e a c
def Lq:Nat->mY->Bool->(List af)->Int->Int->(er×(ae cR×ae cR)×Int)->eS->ae (mY×Bool×(er×(ae cR×ae cR)×Int)×eS)
 |0,_,_,_,_,_,_,_=>none
 |k+1,v0,v1,v2,v3,v4,v5,v6=>IL v0 v1 v2 v3 v4 v5 v6 (λa0 a1 a2 a3 a4 a5 a6=>Lq k a0 a1 a2 a3 a4 a5 a6) (λa0 a1 a2 a3=>some (a0,a1,a2,a3))
def Fl(a:(er×(ae cR×ae cR)×Int))(b:eS):ae (mY×(er×(ae cR×ae cR)×Int)):=
 zs8 a b (λa0 a1=>some (a0,a1)) (λa0 a1 a2 a3 a4 a5 a6=>(Lq bE a0 a1 a2 a3 a4 a5 a6).bind λe=>Ul e.1 e.2.1 e.2.2.1 e.2.2.2 (λa0 a1=>some (a0,a1)))
def zs6{R:Type}(a:(er×(ae cR×ae cR)×Int))(b:Int)(c:Bool->(er×(ae cR×ae cR)×Int)->ae R):ae R:=
 (HB b).bind λr1=>bif r1 then zd b 2 ((getM b.toNat a.2.1).bind λm2=>(Q40 m2).bind λr3=>c r3.1 (a.1,(n3 b.toNat (some r3.2) a.2.1,a.2.2))) else c false a
def L0(a:(er×(ae cR×ae cR)×Int))(b:Int):ae (Bool×(er×(ae cR×ae cR)×Int)):=
 zs6 a b (λa0 a1=>some (a0,a1))
def zs9{R:Type}(a:(er×(ae cR×ae cR)×Int))(b:Int)(c:Int->(er×(ae cR×ae cR)×Int)->ae R):ae R:=
 (HB b).bind λr1=>bif !r1 then c 0 a else zd b 2 ((getM b.toNat a.2.1).bind λm2=>(Q42 m2).bind λr3=>c r3.1 (a.1,(n3 b.toNat (some r3.2) a.2.1,a.2.2)))
def L1(a:(er×(ae cR×ae cR)×Int))(b:Int):ae (Int×(er×(ae cR×ae cR)×Int)):=
 zs9 a b (λa0 a1=>some (a0,a1))
def zuq{R:Type}(a:(List Int)->ae R):ae R:=
 a ([2,3,4,7,11,12,14,23,32,35,37,38,41,42,49,52,55,64,70,102,128]:List Int)
def Hs:ae (List Int):=
 zuq (λa0=>some a0)
def zuu{R:Type}(a:HC->ae R):ae R:=
 a ([([2,1,2,12,19,1,2,12,19]:List Int),([3,1,1,6,6,1,1,6,6]:List Int),([4,1,1,12,12,1,1,12,12]:List Int),([7,1,1,10,10,1,1,10,10]:List Int),([11,1,1,6,6,1,1,6,6]:List Int),([12,1,1,6,6,1,1,12,12]:List Int),([13,1,1,4,4,0,0,0,0]:List Int),([14,1,1,4,4,1,1,4,4]:List Int),([18,1,1,4,4,0,0,0,0]:List Int),([22,1,1,3,3,3,1,12,12]:List Int),([23,1,1,3,3,1,1,3,3]:List Int),([26,0,0,0,0,1,1,4,4]:List Int),([32,1,2,1,11,1,2,1,11]:List Int),([35,4,2,1,37,4,2,1,37]:List Int),([37,3,1,12,12,3,1,12,12]:List Int),([38,3,1,6,6,3,1,6,6]:List Int),([39,3,1,2,2,1,1,3,3]:List Int),([41,4,1,8,8,4,1,8,8]:List Int),([42,4,1,15,15,4,1,15,15]:List Int),([43,4,1,40,40,4,2,1,99]:List Int),([48,4,3,1,999,4,3,1,999]:List Int),([49,1,1,3,3,1,1,3,3]:List Int),([52,5,1,8,8,5,1,8,8]:List Int),([55,6,3,1,255,6,3,1,255]:List Int),([64,5,1,8,8,5,1,8,8]:List Int),([70,1,1,3,3,1,1,3,3]:List Int),([90,1,1,42,42,0,0,0,0]:List Int),([102,4,2,1,28,4,2,1,28]:List Int),([128,5,1,8,8,5,1,8,8]:List Int)]:List (List Int))
def Ht:ae HC:=
 zuu (λa0=>some a0)
def zur{R:Type}(a:Int)(b:Int->HC->Int->bm->bm->ae R):ae R:=
 Ht.bind λr1=>b a r1 0 (0,0,[],()) (zW zI (a+1),a,[],())
def zus{R:Type}(a:Int)(b:HC)(c:Int)(d e:bm)(f:Int->HC->Int->bm->bm->ae R)(g:bm->bm->ae R):ae R:=
 bif c<((ag b):Int) then zd c (ag b) (bif 0<=zW zI (5+zW zI (4*a)) then bif zW zI (5+zW zI (4*a))<=(((ag (ah b c.toNat ([]:List Int))):Nat):Int) then bif 0<=zW zI (1+zW zI (4*a)) then bif zW zI (1+zW zI (4*a))<=(((zW zI (5+zW zI (4*a))).toNat:Nat):Int) then zd 0 (ag (bk (zW zI ((1:Int)+zW zI ((4:Int)*a))).toNat (aI (zW zI ((5:Int)+zW zI ((4:Int)*a))).toNat (ah b c.toNat ([]:List Int))))) (bif 0<ah (bk (zW zI (1+zW zI (4*a))).toNat (aI (zW zI (5+zW zI (4*a))).toNat (ah b c.toNat []))) ((0:Int)).toNat 0 then zd c (ag b) (zd 0 (ag (ah b c.toNat ([]:List Int))) (zd 0 (ag (bk (zW zI ((1:Int)+zW zI ((4:Int)*a))).toNat (aI (zW zI ((5:Int)+zW zI ((4:Int)*a))).toNat (ah b c.toNat ([]:List Int))))) (zd 1 (ag (bk (zW zI ((1:Int)+zW zI ((4:Int)*a))).toNat (aI (zW zI ((5:Int)+zW zI ((4:Int)*a))).toNat (ah b c.toNat ([]:List Int))))) (zd 2 (ag (bk (zW zI ((1:Int)+zW zI ((4:Int)*a))).toNat (aI (zW zI ((5:Int)+zW zI ((4:Int)*a))).toNat (ah b c.toNat ([]:List Int))))) (zd 3 (ag (bk (zW zI ((1:Int)+zW zI ((4:Int)*a))).toNat (aI (zW zI ((5:Int)+zW zI ((4:Int)*a))).toNat (ah b c.toNat ([]:List Int))))) (bif(ag e.2.2.1+ag ([(ah (ah b c.toNat ([]:List Int)) ((0:Int)).toNat (0:Int),ah (bk (zW zI ((1:Int)+zW zI ((4:Int)*a))).toNat (aI (zW zI ((5:Int)+zW zI ((4:Int)*a))).toNat (ah b c.toNat ([]:List Int)))) ((0:Int)).toNat (0:Int),ah (bk (zW zI ((1:Int)+zW zI ((4:Int)*a))).toNat (aI (zW zI ((5:Int)+zW zI ((4:Int)*a))).toNat (ah b c.toNat ([]:List Int)))) ((1:Int)).toNat (0:Int),ah (bk (zW zI ((1:Int)+zW zI ((4:Int)*a))).toNat (aI (zW zI ((5:Int)+zW zI ((4:Int)*a))).toNat (ah b c.toNat ([]:List Int)))) ((2:Int)).toNat (0:Int),ah (bk (zW zI ((1:Int)+zW zI ((4:Int)*a))).toNat (aI (zW zI ((5:Int)+zW zI ((4:Int)*a))).toNat (ah b c.toNat ([]:List Int)))) ((3:Int)).toNat (0:Int),())]:List dU))*40<=140737488355328 then f a b (zW zI (c+1)) d (e.1,e.2.1,e.2.2.1++([(ah (ah b c.toNat []) ((0:Int)).toNat 0,ah (bk (zW zI (1+zW zI (4*a))).toNat (aI (zW zI (5+zW zI (4*a))).toNat (ah b c.toNat []))) ((0:Int)).toNat 0,ah (bk (zW zI (1+zW zI (4*a))).toNat (aI (zW zI (5+zW zI (4*a))).toNat (ah b c.toNat []))) ((1:Int)).toNat 0,ah (bk (zW zI (1+zW zI (4*a))).toNat (aI (zW zI (5+zW zI (4*a))).toNat (ah b c.toNat []))) ((2:Int)).toNat 0,ah (bk (zW zI (1+zW zI (4*a))).toNat (aI (zW zI (5+zW zI (4*a))).toNat (ah b c.toNat []))) ((3:Int)).toNat 0,())]:List dU),()) else none)))))) else f a b (zW zI (c+1)) d e) else none else none else none else none) else g d e
def zut{R:Type}(a b:bm)(c:bm->ae R):ae R:=
 c b
def Wn:Nat->Int->HC->Int->bm->bm->ae (bm×bm)
 |0,_,_,_,_,_=>none
 |k+1,v0,v1,v2,v3,v4=>zus v0 v1 v2 v3 v4 (λa0 a1 a2 a3 a4=>Wn k a0 a1 a2 a3 a4) (λa0 a1=>some (a0,a1))
def AH(a:Int):ae bm:=
 zur a (λa0 a1 a2 a3 a4=>(Wn bE a0 a1 a2 a3 a4).bind λe=>zut e.1 e.2 (λa0=>some a0))
def zsk{R:Type}(a:Int)(b:Bool->ae R):ae R:=
 bif 48<=a then b (decide (a<=57)) else b false
def L4(a:Int):ae Bool:=
 zsk a (λa0=>some a0)
def zsi{R:Type}(a:af)(b:af->Int->ae R):ae R:=
 b a 0
def zsj{R:Type}(a:af)(b:Int)(c:Bool->ae R)(d:af->Int->ae R)(e:ae R):ae R:=
 bif b<(a.size:Int) then zd b a.size ((L4 (ze a b.toNat)).bind λr1=>bif !r1 then c false else d a (zW zI (b+1))) else e
def IU{R:Type}(a:Bool)(b:Bool->ae R):ae R:=
 b a
def IV{R:Type}(a:Bool->ae R):ae R:=
 a true
def Ls:Nat->af->Int->ae (Sum Bool Unit)
 |0,_,_=>none
 |k+1,v0,v1=>zsj v0 v1 (λa0=>some (.inl a0)) (λa0 a1=>Ls k a0 a1) (some (.inr ()))
def Ko(a:af):ae Bool:=
 zsi a (λa0 a1=>(Ls bE a0 a1).bind λe=>aA (λ(we:Bool)=>IU we (λa0=>some a0)) (λ(we:Unit)=>IV (λa0=>some a0)) e)
def zsm{R:Type}(a:af)(b:Int->Bool->ae R)(c:af->Int->Int->ae R):ae R:=
 bif(a.size:Int)<1 then b 0 false else bif 18<(a.size:Int) then b 0 false else(Ko a).bind λr1=>bif !r1 then b 0 false else c a 0 0
def zsn{R:Type}(a:af)(b c:Int)(d:af->Int->Int->ae R)(e:Int->ae R):ae R:=
 bif c<(a.size:Int) then zd c a.size (d a (zW zI (zW zI (zW zI (10*b)+zW zI (ze a c.toNat))-48)) (zW zI (c+1))) else e b
def IW{R:Type}(a:Int)(b:Int->Bool->ae R):ae R:=
 b a true
def Lt:Nat->af->Int->Int->ae Int
 |0,_,_,_=>none
 |k+1,v0,v1,v2=>zsn v0 v1 v2 (λa0 a1 a2=>Lt k a0 a1 a2) (λa0=>some a0)
def L5(a:af):ae (Int×Bool):=
 zsm a (λa0 a1=>some (a0,a1)) (λa0 a1 a2=>(Lt bE a0 a1 a2).bind λe=>IW e (λa0 a1=>some (a0,a1)))
def zsv{R:Type}(a:(List Int))(b:Int)(c:(List Int)->Int->Int->ae R):ae R:=
 c a b 0
def Uo{R:Type}(a:(List Int))(b c:Int)(d:Bool->ae R)(e:(List Int)->Int->Int->ae R)(f:ae R):ae R:=
 bif c<((ag a):Int) then zd c (ag a) (bif ah a c.toNat 0=b then d true else e a b (zW zI (c+1))) else f
def I5{R:Type}(a:Bool)(b:Bool->ae R):ae R:=
 b a
def I6{R:Type}(a:Bool->ae R):ae R:=
 a false
def z93:Nat->(List Int)->Int->Int->ae (Sum Bool Unit)
 |0,_,_,_=>none
 |k+1,v0,v1,v2=>Uo v0 v1 v2 (λa0=>some (.inl a0)) (λa0 a1 a2=>z93 k a0 a1 a2) (some (.inr ()))
def L8(a:(List Int))(b:Int):ae Bool:=
 zsv a b (λa0 a1 a2=>(z93 bE a0 a1 a2).bind λe=>aA (λ(we:Bool)=>I5 we (λa0=>some a0)) (λ(we:Unit)=>I6 (λa0=>some a0)) e)
def zsq{R:Type}(a b:Int)(c:Bool->ae R):ae R:=
 bif 48<=b then bif 65<=b then bif b<=90 then bif a=1 then c (decide (b<=57)) else bif a=2 then c true else bif a=3 then bif b<=57 then c true else c true else bif a=4 then bif 32<=b then c (decide (b<=126)) else c false else bif a=5 then c true else c (decide (a=6)) else bif 97<=b then bif a=1 then c (decide (b<=57)) else bif a=2 then c (decide (b<=122)) else bif a=3 then bif b<=57 then c true else c (decide (b<=122)) else bif a=4 then bif 32<=b then c (decide (b<=126)) else c false else bif a=5 then c true else c (decide (a=6)) else bif a=1 then c (decide (b<=57)) else bif a=2 then c false else bif a=3 then bif b<=57 then c true else c false else bif a=4 then bif 32<=b then c (decide (b<=126)) else c false else bif a=5 then c true else c (decide (a=6)) else bif 97<=b then bif a=1 then c (decide (b<=57)) else bif a=2 then c (decide (b<=122)) else bif a=3 then bif b<=57 then c true else c (decide (b<=122)) else bif a=4 then bif 32<=b then c (decide (b<=126)) else c false else bif a=5 then c true else c (decide (a=6)) else bif a=1 then c (decide (b<=57)) else bif a=2 then c false else bif a=3 then bif b<=57 then c true else c false else bif a=4 then bif 32<=b then c (decide (b<=126)) else c false else bif a=5 then c true else c (decide (a=6)) else bif 65<=b then bif b<=90 then bif a=1 then c false else bif a=2 then c true else bif a=3 then c true else bif a=4 then bif 32<=b then c (decide (b<=126)) else c false else bif a=5 then c true else c (decide (a=6)) else bif 97<=b then bif a=1 then c false else bif a=2 then c (decide (b<=122)) else bif a=3 then c (decide (b<=122)) else bif a=4 then bif 32<=b then c (decide (b<=126)) else c false else bif a=5 then c true else c (decide (a=6)) else bif a=1 then c false else bif a=2 then c false else bif a=3 then c false else bif a=4 then bif 32<=b then c (decide (b<=126)) else c false else bif a=5 then c true else c (decide (a=6)) else bif 97<=b then bif a=1 then c false else bif a=2 then c (decide (b<=122)) else bif a=3 then c (decide (b<=122)) else bif a=4 then bif 32<=b then c (decide (b<=126)) else c false else bif a=5 then c true else c (decide (a=6)) else bif a=1 then c false else bif a=2 then c false else bif a=3 then c false else bif a=4 then bif 32<=b then c (decide (b<=126)) else c false else bif a=5 then c true else c (decide (a=6))
def Fm(a b:Int):ae Bool:=
 zsq a b (λa0=>some a0)
def zsp{R:Type}(a:Int)(b:af)(c:Int->af->Int->ae R):ae R:=
 c a b 0
def Un{R:Type}(a:Int)(b:af)(c:Int)(d:Int->ae R)(e:Int->af->Int->ae R)(f:ae R):ae R:=
 bif c<(b.size:Int) then zd c b.size ((Fm a (ze b c.toNat)).bind λr1=>bif !r1 then d c else e a b (zW zI (c+1))) else f
def IY{R:Type}(a:Int)(b:Int->ae R):ae R:=
 b a
def IZ{R:Type}(a:Int->ae R):ae R:=
 a (-1:Int)
def Ke:Nat->Int->af->Int->ae (Sum Int Unit)
 |0,_,_,_=>none
 |k+1,v0,v1,v2=>Un v0 v1 v2 (λa0=>some (.inl a0)) (λa0 a1 a2=>Ke k a0 a1 a2) (some (.inr ()))
def L6(a:Int)(b:af):ae Int:=
 zsp a b (λa0 a1 a2=>(Ke bE a0 a1 a2).bind λe=>aA (λ(we:Int)=>IY we (λa0=>some a0)) (λ(we:Unit)=>IZ (λa0=>some a0)) e)
def zst{R:Type}(a b:Int)(c:Bool->ae R)(d:Int->Int->Int->ae R):ae R:=
 bif a<1 then c false else bif 6<a then c false else bif b<1 then c false else bif 6<b then c false else d a b 0
def I1{R:Type}(a b c:Int)(d:Bool->ae R)(e:Int->Int->Int->ae R)(f:ae R):ae R:=
 bif c<256 then(Fm b (zW zU c)).bind λr1=>bif r1 then(Fm a (zW zU c)).bind λr2=>bif !r2 then d false else e a b (zW zI (c+1)) else e a b (zW zI (c+1)) else f
def I2{R:Type}(a:Bool)(b:Bool->ae R):ae R:=
 b a
def I3{R:Type}(a:Bool->ae R):ae R:=
 a true
def zss:Nat->Int->Int->Int->ae (Sum Bool Unit)
 |0,_,_,_=>none
 |k+1,v0,v1,v2=>I1 v0 v1 v2 (λa0=>some (.inl a0)) (λa0 a1 a2=>zss k a0 a1 a2) (some (.inr ()))
def Kp(a b:Int):ae Bool:=
 zst a b (λa0=>some a0) (λa0 a1 a2=>(zss bE a0 a1 a2).bind λe=>aA (λ(we:Bool)=>I2 we (λa0=>some a0)) (λ(we:Unit)=>I3 (λa0=>some a0)) e)
def I7{R:Type}(a:Int)(b:Int->ae R):ae R:=
 bif a=0 then b 0 else bif eG (zW zU (dj a 32)) 2=1 then b 0 else bif eG a 32=31 then b 2 else b 1
def Fp(a:Int):ae Int:=
 I7 a (λa0=>some a0)
def Up{R:Type}(a:af)(b:Int)(c:Int->Int->Int->ae R):ae R:=
 bif b<0 then c 0 0 1 else bif(a.size:Int)<b then c 0 0 1 else bif b=(a.size:Int) then c 0 0 2 else zd b a.size ((Fp (ze a b.toNat)).bind λr1=>bif r1=0 then c 0 0 13 else bif r1=1 then zd b a.size (c (zW zI (ze a b.toNat)) (zW zI (b+1)) 0) else bif zW zI ((a.size:Int)-b)<2 then c 0 0 2 else zd (zW zI (b+1)) a.size (bif ze a (zW zI (b+(1:Int))).toNat=0 then c 0 0 13 else zd (zW zI (b+1)) a.size (bif 127<ze a (zW zI (b+(1:Int))).toNat then c 0 0 13 else zd b a.size (zd (zW zI (b+1)) a.size (c (zW zI (zW zI (256*zW zI (ze a b.toNat))+zW zI (ze a (zW zI (b+(1:Int))).toNat))) (zW zI (b+2)) 0)))))
def Fq(a:af)(b:Int):ae qw:=
 Up a b (λa0 a1 a2=>some (a0,a1,a2))
def Uq{R:Type}(a:af)(b:Int)(c:Int->Int->Int->ae R):ae R:=
 bif b<0 then c 0 0 1 else bif(a.size:Int)<b then c 0 0 1 else bif b=(a.size:Int) then c 0 0 2 else zd b a.size (bif zW zI (ze a b.toNat)<128 then c (zW zI (ze a b.toNat)) (zW zI (b+1)) 0 else bif !decide (zW zI (ze a b.toNat)=129) then bif !decide (zW zI (ze a b.toNat)=130) then c 0 0 14 else bif zW zI ((a.size:Int)-b)<zW zI (zW zI (ze a b.toNat)-127) then c 0 0 2 else bif zW zI (ze a b.toNat)=129 then zd (zW zI (b+1)) a.size (bif ze a (zW zI (b+(1:Int))).toNat<128 then c 0 0 14 else zd (zW zI (b+1)) a.size (c (zW zI (ze a (zW zI (b+(1:Int))).toNat)) (zW zI (b+2)) 0)) else zd (zW zI (b+1)) a.size (bif ze a (zW zI (b+(1:Int))).toNat=0 then c 0 0 14 else zd (zW zI (b+1)) a.size (zd (zW zI (b+2)) a.size (c (zW zI (zW zI (256*zW zI (ze a (zW zI (b+(1:Int))).toNat))+zW zI (ze a (zW zI (b+(2:Int))).toNat))) (zW zI (b+3)) 0))) else bif zW zI ((a.size:Int)-b)<zW zI (zW zI (ze a b.toNat)-127) then c 0 0 2 else bif zW zI (ze a b.toNat)=129 then zd (zW zI (b+1)) a.size (bif ze a (zW zI (b+(1:Int))).toNat<128 then c 0 0 14 else zd (zW zI (b+1)) a.size (c (zW zI (ze a (zW zI (b+(1:Int))).toNat)) (zW zI (b+2)) 0)) else zd (zW zI (b+1)) a.size (bif ze a (zW zI (b+(1:Int))).toNat=0 then c 0 0 14 else zd (zW zI (b+1)) a.size (zd (zW zI (b+2)) a.size (c (zW zI (zW zI (256*zW zI (ze a (zW zI (b+(1:Int))).toNat))+zW zI (ze a (zW zI (b+(2:Int))).toNat))) (zW zI (b+3)) 0))))
def Fs(a:af)(b:Int):ae qw:=
 Uq a b (λa0 a1 a2=>some (a0,a1,a2))
def zsy{R:Type}(a:cQ)(b c:Int)(d:cQ->Int->Int->Int->ae R):ae R:=
 d a b c 0
def Ut{R:Type}(a:cQ)(b c d:Int)(e:Bool->ae R)(f:cQ->Int->Int->Int->ae R)(g:ae R):ae R:=
 bif d<b then zd d (ag a) (bif(ah a d.toNat (0,bs [],())).1=c then e true else f a b c (zW zI (d+1))) else g
def z143{R:Type}(a:Bool)(b:Bool->ae R):ae R:=
 b a
def Jb{R:Type}(a:Bool->ae R):ae R:=
 a false
def Kf:Nat->cQ->Int->Int->Int->ae (Sum Bool Unit)
 |0,_,_,_,_=>none
 |k+1,v0,v1,v2,v3=>Ut v0 v1 v2 v3 (λa0=>some (.inl a0)) (λa0 a1 a2 a3=>Kf k a0 a1 a2 a3) (some (.inr ()))
def Mb(a:cQ)(b c:Int):ae Bool:=
 zsy a b c (λa0 a1 a2 a3=>(Kf bE a0 a1 a2 a3).bind λe=>aA (λ(we:Bool)=>z143 we (λa0=>some a0)) (λ(we:Unit)=>Jb (λa0=>some a0)) e)
def Ur{R:Type}(a:af)(b:af->cQ->Int->ae R):ae R:=
 b a [] 0
def Us{R:Type}(a:af)(b:cQ)(c:Int)(d:cQ->Int->Int->cQ->ae R)(e:af->cQ->Int->ae R)(f:cQ->ae R):ae R:=
 bif c<(a.size:Int) then(Fq a c).bind λr1=>bif !decide (r1.2.2=0) then d [] r1.2.2 c b else(Fs a r1.2.1).bind λr2=>bif !decide (r2.2.2=0) then d [] r2.2.2 r1.2.1 b else bif zW zI ((a.size:Int)-r2.2.1)<r2.1 then d [] 2 (a.size:Int) b else(Mb b ((ag b):Int) r1.1).bind λr3=>bif r3 then d [] 10 c b else bif 0<=zW zI (r2.2.1+r2.1) then bif zW zI (r2.2.1+r2.1)<=(a.size:Int) then bif 0<=r2.2.1 then bif r2.2.1<=(((zW zI (r2.2.1+r2.1)).toNat:Nat):Int) then bif(ag b+ag ([(r1.1,a.extract r2.2.1.toNat (zW zI (r2.2.1+r2.1)).toNat,())]:List eS))*24<=140737488355328 then e a (b++([(r1.1,a.extract r2.2.1.toNat (zW zI (r2.2.1+r2.1)).toNat,())]:List eS)) (zW zI (r2.2.1+r2.1)) else none else none else none else none else none else f b
def I9{R:Type}(a:cQ)(b c:Int)(d:cQ)(e:cQ->Int->Int->ae R):ae R:=
 e a b c
def z141{R:Type}(a:cQ)(b:cQ->Int->Int->ae R):ae R:=
 b a 0 0
def Hm:Nat->af->cQ->Int->ae (Sum yR cQ)
 |0,_,_,_=>none
 |k+1,v0,v1,v2=>Us v0 v1 v2 (λa0 a1 a2 a3=>some (.inl (a0,a1,a2,a3))) (λa0 a1 a2=>Hm k a0 a1 a2) (λa0=>some (.inr a0))
def Ft(a:af):ae (Sum qS qS):=
 Ur a (λa0 a1 a2=>(Hm bE a0 a1 a2).bind λe=>aA (λ(we:yR)=>I9 we.1 we.2.1 we.2.2.1 we.2.2.2 (λa0 a1 a2=>some (.inl (a0,a1,a2)))) (λ(we:cQ)=>z141 we (λa0 a1 a2=>some (.inr (a0,a1,a2)))) e)
def zsz{R:Type}(a:dU)(b:Int->ae R):ae R:=
 bif a.1<2 then b 1 else bif 128<a.1 then b 1 else bif a.2.1<1 then b 6 else bif 6<a.2.1 then b 6 else bif a.2.2.1<1 then b 3 else bif 3<a.2.2.1 then b 3 else bif a.2.2.1=2 then bif a.2.2.2.1<1 then b 5 else bif a.2.2.2.2.1<a.2.2.2.1 then b 5 else bif 99<a.2.2.2.2.1 then b 5 else bif a.2.2.1=1 then bif !decide (a.2.2.2.1=a.2.2.2.2.1) then b 5 else bif a.2.2.1=1 then bif a.2.1=6 then b 13 else b 0 else b 0 else bif a.2.2.1=1 then bif a.2.1=6 then b 13 else b 0 else b 0 else bif a.2.2.2.1<1 then b 5 else bif a.2.2.2.2.1<a.2.2.2.1 then b 5 else bif 999<a.2.2.2.2.1 then b 5 else bif a.2.2.1=1 then bif !decide (a.2.2.2.1=a.2.2.2.2.1) then b 5 else bif a.2.2.1=1 then bif a.2.1=6 then b 13 else b 0 else b 0 else bif a.2.2.1=1 then bif a.2.1=6 then b 13 else b 0 else b 0
def Fv(a:dU):ae Int:=
 zsz a (λa0=>some a0)
def Lu{R:Type}(a:dU)(b:af)(c:Int->ae R):ae R:=
 (Fv a).bind λr1=>bif !decide (r1=0) then c 1 else bif(b.size:Int)<a.2.2.2.1 then c 5 else bif a.2.2.2.2.1<(b.size:Int) then c 5 else(L6 a.2.1 b).bind λr2=>bif 0<=r2 then c 6 else bif a.2.1=6 then(Ft b).bind λr3=>aA (λ(CR:qS)=>bif !decide (CR.2.1=0) then c 13 else c 0) (λ(CR:qS)=>bif !decide (CR.2.1=0) then c 13 else c 0) r3 else c 0
def uO(a:dU)(b:af):ae Int:=
 Lu a b (λa0=>some a0)
def Lv{R:Type}(a b:dU)(c:Bool->ae R):ae R:=
 (Fv a).bind λr1=>bif !decide (r1=0) then c false else(Fv b).bind λr2=>bif !decide (r2=0) then c false else bif b.2.2.2.1<a.2.2.2.1 then c false else bif a.2.2.2.2.1<b.2.2.2.2.1 then c false else bif a.2.1=5 then c true else bif a.2.1=6 then c (decide (a.2.1=b.2.1)) else bif b.2.1=6 then c (decide (a.2.1=b.2.1)) else(Kp a.2.1 b.2.1).bind λr3=>c r3
def CD(a b:dU):ae Bool:=
 Lv a b (λa0=>some a0)
def Lw{R:Type}(a:bm)(b:Int->Int->ae R)(c:Int->Int->bm->ae R):ae R:=
 bif !decide (a.1=1) then bif !decide (a.1=2) then b 1 (-1:Int) else bif a.2.1<0 then b 7 (-1:Int) else bif 9<a.2.1 then b 7 (-1:Int) else c 0 0 a else bif a.2.1<0 then b 7 (-1:Int) else bif 9<a.2.1 then b 7 (-1:Int) else c 0 0 a
theorem acM{R S:Type}(F:R->ae S)(a)(b)(c):(Lw a b c).bind F=Lw a (λa0 a1=>(b a0 a1).bind F) (λa0 a1 a2=>(c a0 a1 a2).bind F):=by simp only[Lw,cP]
def Uu{R:Type}(a b:Int)(c:bm)(d:Int->Int->ae R)(e:Int->Int->bm->ae R)(f:ae R):ae R:=
 bif b<((ag c.2.2.1):Int) then zd b (ag c.2.2.1) ((Fv (ah c.2.2.1 b.toNat (0,0,0,0,0,()))).bind λr1=>bif !decide (r1=0) then d r1 b else zd b (ag c.2.2.1) (bif(ah c.2.2.1 b.toNat (0,0,0,0,0,())).1<=a then d 11 b else zd b (ag c.2.2.1) (e (ah c.2.2.1 b.toNat (0,0,0,0,0,())).1 (zW zI (b+1)) c))) else f
def zt1{R:Type}(a b:Int)(c:Int->Int->ae R):ae R:=
 c a b
def zt2{R:Type}(a:Int->Int->ae R):ae R:=
 a 0 0
def EY:Nat->Int->Int->bm->ae (Sum (Int×Int) Unit)
 |0,_,_,_=>none
 |k+1,v0,v1,v2=>Uu v0 v1 v2 (λa0 a1=>some (.inl (a0,a1))) (λa0 a1 a2=>EY k a0 a1 a2) (some (.inr ()))
def Mc(a:bm):ae (Int×Int):=
 Lw a (λa0 a1=>some (a0,a1)) (λa0 a1 a2=>(EY bE a0 a1 a2).bind λe=>aA (λ(we:(Int×Int))=>zt1 we.1 we.2 (λa0 a1=>some (a0,a1))) (λ(we:Unit)=>zt2 (λa0 a1=>some (a0,a1))) e)
def Wl{R:Type}(a:bm)(b:Bool->ae R):ae R:=
 (Mc a).bind λr1=>b (decide (r1.1=0))
def wg(a:bm):ae Bool:=
 Wl a (λa0=>some a0)
def zt4{R:Type}(a:bm)(b:Int)(c:Int->Int->bm->ae R):ae R:=
 c b 0 a
def Jd{R:Type}(a b:Int)(c:bm)(d:Int->ae R)(e:Int->Int->bm->ae R)(f:ae R):ae R:=
 bif b<((ag c.2.2.1):Int) then zd b (ag c.2.2.1) (bif(ah c.2.2.1 b.toNat (0,0,0,0,0,())).1=a then d b else e a (zW zI (b+1)) c) else f
def Je{R:Type}(a:Int)(b:Int->ae R):ae R:=
 b a
def Jf{R:Type}(a:Int->ae R):ae R:=
 a (-1:Int)
def Uv:Nat->Int->Int->bm->ae (Sum Int Unit)
 |0,_,_,_=>none
 |k+1,v0,v1,v2=>Jd v0 v1 v2 (λa0=>some (.inl a0)) (λa0 a1 a2=>Uv k a0 a1 a2) (some (.inr ()))
def Fw(a:bm)(b:Int):ae Int:=
 zt4 a b (λa0 a1 a2=>(Uv bE a0 a1 a2).bind λe=>aA (λ(we:Int)=>Je we (λa0=>some a0)) (λ(we:Unit)=>Jf (λa0=>some a0)) e)
def Wp{R:Type}(a:af)(b:Bool->ae R):ae R:=
 bif(a.size:Int)=4 then(Ko a).bind λr1=>b r1 else b false
def AJ(a:af):ae Bool:=
 Wp a (λa0=>some a0)
def Wo{R:Type}(a:af)(b:Bool->ae R):ae R:=
 (L5 a).bind λr1=>bif r1.2 then bif(a.size:Int)=4 then bif eG (zW zI (dj r1.1 10)) 10=0 then b true else b (decide (eG (zW zI (dj r1.1 10)) 10=2)) else b false else b false
def yA(a:af):ae Bool:=
 Wo a (λa0=>some a0)
def zuy{R:Type}(a:dZ)(b:dZ->dZ->Int->ae R):ae R:=
 b a [] 0
def zuz{R:Type}(a b:dZ)(c:Int)(d:dZ->dZ->Int->ae R)(e:dZ->ae R):ae R:=
 bif c<((ag a):Int) then zd c (ag a) (zd c (ag a) (bif(ag b+ag ([((ah a c.toNat (bs [],bs [],())).2.1,(ah a c.toNat (bs [],bs [],())).1,())]:List mF))*32<=140737488355328 then d a (b++([((ah a c.toNat (bs [],bs [],())).2.1,(ah a c.toNat (bs [],bs [],())).1,())]:List mF)) (zW zI (c+1)) else none)) else e b
def zv0{R:Type}(a:dZ)(b:dZ->ae R):ae R:=
 b a
def Wu:Nat->dZ->dZ->Int->ae dZ
 |0,_,_,_=>none
 |k+1,v0,v1,v2=>zuz v0 v1 v2 (λa0 a1 a2=>Wu k a0 a1 a2) (λa0=>some a0)
def AM(a:dZ):ae dZ:=
 zuy a (λa0 a1 a2=>(Wu bE a0 a1 a2).bind λe=>zv0 e (λa0=>some a0))
def zip{R:Type}(a:dZ)(b:Int)(c:af)(d:dZ->Int->af->Int->ae R):ae R:=
 d a b c 0
def Tk{R:Type}(a:dZ)(b:Int)(c:af)(d:Int)(e:Int->ae R)(f:dZ->Int->af->Int->ae R)(g:ae R):ae R:=
 bif d<b then zd d (ag a) (bif(ah a d.toNat (bs [],bs [],())).1=c then e d else f a b c (zW zI (d+1))) else g
def zv2{R:Type}(a:Int)(b:Int->ae R):ae R:=
 b a
def zv3{R:Type}(a:Int->ae R):ae R:=
 a (-1:Int)
def JL:Nat->dZ->Int->af->Int->ae (Sum Int Unit)
 |0,_,_,_,_=>none
 |k+1,v0,v1,v2,v3=>Tk v0 v1 v2 v3 (λa0=>some (.inl a0)) (λa0 a1 a2 a3=>JL k a0 a1 a2 a3) (some (.inr ()))
def yB(a:dZ)(b:Int)(c:af):ae Int:=
 zip a b c (λa0 a1 a2 a3=>(JL bE a0 a1 a2 a3).bind λe=>aA (λ(we:Int)=>zv2 we (λa0=>some a0)) (λ(we:Unit)=>zv3 (λa0=>some a0)) e)
def Wq{R:Type}(a:dZ)(b:af)(c:af->Bool->ae R):ae R:=
 (yB a ((ag a):Int) b).bind λr1=>bif r1<0 then c (bs []) false else zd r1 (ag a) (c (ah a r1.toNat (bs [],bs [],())).2.1 true)
def AK(a:dZ)(b:af):ae qT:=
 Wq a b (λa0 a1=>some (a0,a1))
def Ws{R:Type}(a:dZ)(b:Int->Int->ae R)(c:dZ->Int->ae R):ae R:=
 bif 256<((ag a):Int) then b 5 256 else c a 0
def Tj{R:Type}(a:dZ)(b:Int)(c:Int->Int->ae R)(d:dZ->Int->ae R)(e:ae R):ae R:=
 bif b<((ag a):Int) then zd b (ag a) ((yB a b (ah a b.toNat (bs [],bs [],())).1).bind λr1=>bif 0<=r1 then c 10 b else d a (zW zI (b+1))) else e
def zuw{R:Type}(a b:Int)(c:Int->Int->ae R):ae R:=
 c a b
def zux{R:Type}(a:Int->Int->ae R):ae R:=
 a 0 0
def JK:Nat->dZ->Int->ae (Sum (Int×Int) Unit)
 |0,_,_=>none
 |k+1,v0,v1=>Tj v0 v1 (λa0 a1=>some (.inl (a0,a1))) (λa0 a1=>JK k a0 a1) (some (.inr ()))
def AL(a:dZ):ae (Int×Int):=
 Ws a (λa0 a1=>some (a0,a1)) (λa0 a1=>(JK bE a0 a1).bind λe=>aA (λ(we:(Int×Int))=>zuw we.1 we.2 (λa0 a1=>some (a0,a1))) (λ(we:Unit)=>zux (λa0 a1=>some (a0,a1))) e)
def WB{R:Type}(a:dg)(b:Bool->ae R)(c:Int->dg->ae R):ae R:=
 bif 1200<(a.2.2.2.1.size:Int) then b true else bif 300<((ag a.2.2.2.2.1):Int) then b true else c 0 a
def Tn{R:Type}(a:Int)(b:dg)(c:Bool->ae R)(d:Int->dg->ae R)(e:ae R):ae R:=
 bif a<((ag b.2.2.2.2.1):Int) then zd a (ag b.2.2.2.2.1) (bif 1200<(((ah b.2.2.2.2.1 a.toNat (bs [],bs [],())).1).size:Int) then c true else zd a (ag b.2.2.2.2.1) (bif 1200<(((ah b.2.2.2.2.1 a.toNat (bs [],bs [],())).2.1).size:Int) then c true else d (zW zI (a+1)) b)) else e
def zvf{R:Type}(a:Bool)(b:Bool->ae R):ae R:=
 b a
def zvg{R:Type}(a:Bool->ae R):ae R:=
 a false
def ES:Nat->Int->dg->ae (Sum Bool Unit)
 |0,_,_=>none
 |k+1,v0,v1=>Tn v0 v1 (λa0=>some (.inl a0)) (λa0 a1=>ES k a0 a1) (some (.inr ()))
def wh(a:dg):ae Bool:=
 WB a (λa0=>some a0) (λa0 a1=>(ES bE a0 a1).bind λe=>aA (λ(we:Bool)=>zvf we (λa0=>some a0)) (λ(we:Unit)=>zvg (λa0=>some a0)) e)
def K5{R:Type}(a:dg)(b c:bm)(d:Bool->dg->bm->bm->ae R):ae R:=
 bif a.1<1 then d true a b c else d (decide (5<a.1)) a b c
theorem aci{R S:Type}(F:R->ae S)(a)(b)(c)(d):(K5 a b c d).bind F=K5 a b c (λa0 a1 a2 a3=>(d a0 a1 a2 a3).bind F):=by simp only[K5,cP]
def zv9{R:Type}(a:Bool)(b:dg)(c d:bm)(e:Int->ae R)(f:dg->bm->bm->ae R):ae R:=
 bif a then e 1 else f b c d
def z85{R:Type}(a:dg)(b c:bm)(d:Int->Int->Bool->dg->bm->bm->ae R):ae R:=
 (Fw b a.2.1).bind λr1=>(Fw c a.2.2.1).bind λr2=>bif a.1=3 then bif !decide (a.2.1=0) then d r1 r2 true a b c else bif !decide (a.1=3) then d r1 r2 (decide (r1<0)) a b c else d r1 r2 false a b c else bif !decide (a.1=3) then d r1 r2 (decide (r1<0)) a b c else d r1 r2 false a b c
theorem acj{R S:Type}(F:R->ae S)(a)(b)(c)(d):(z85 a b c d).bind F=z85 a b c (λa0 a1 a2 a3 a4 a5=>(d a0 a1 a2 a3 a4 a5).bind F):=by simp only[z85,cP]
def zva{R:Type}(a b:Int)(c:Bool)(d:dg)(e f:bm)(g:Int->ae R)(h:Int->Int->dg->bm->bm->ae R):ae R:=
 bif c then g 9 else h a b d e f
def K6{R:Type}(a b:Int)(c:dg)(d e:bm)(f:Int->Int->Bool->dg->bm->bm->ae R):ae R:=
 bif c.1=2 then bif !decide (c.2.2.1=0) then f a b true c d e else bif !decide (c.1=2) then f a b (decide (b<0)) c d e else f a b false c d e else bif !decide (c.1=2) then f a b (decide (b<0)) c d e else f a b false c d e
theorem ack{R S:Type}(F:R->ae S)(a)(b)(c)(d)(e)(f):(K6 a b c d e f).bind F=K6 a b c d e (λa0 a1 a2 a3 a4 a5=>(f a0 a1 a2 a3 a4 a5).bind F):=by simp only[K6,cP]
def zvb{R:Type}(a b:Int)(c:Bool)(d:dg)(e f:bm)(g:Int->ae R)(h:Int->Int->dg->bm->bm->ae R):ae R:=
 bif c then g 9 else h a b d e f
def z87{R:Type}(a b:Int)(c:dg)(d e:bm)(f:Int->Int->Bool->dg->bm->bm->ae R):ae R:=
 bif !decide (c.2.2.2.1=bs []) then bif !decide (c.1=3) then f a b true c d e else bif 0<((ag c.2.2.2.2.1):Int) then f a b (!decide (c.1=5)) c d e else f a b false c d e else bif 0<((ag c.2.2.2.2.1):Int) then f a b (!decide (c.1=5)) c d e else f a b false c d e
theorem acm{R S:Type}(F:R->ae S)(a)(b)(c)(d)(e)(f):(z87 a b c d e f).bind F=z87 a b c d e (λa0 a1 a2 a3 a4 a5=>(f a0 a1 a2 a3 a4 a5).bind F):=by simp only[z87,cP]
def zvc{R:Type}(a b:Int)(c:Bool)(d:dg)(e f:bm)(g:Int->ae R)(h:Int->Int->dg->bm->bm->ae R):ae R:=
 bif c then g 3 else h a b d e f
def K7{R:Type}(a b:Int)(c:dg)(d e:bm)(f:Int->ae R)(g:ae R)(h:Bool->ae R)(i:Int->Int->Bool->dg->bm->bm->ae R):ae R:=
 bif c.1=1 then zd b (ag e.2.2.1) (zd a (ag d.2.2.1) ((CD (ah e.2.2.1 b.toNat (0,0,0,0,0,())) (ah d.2.2.1 a.toNat (0,0,0,0,0,()))).bind λr3=>bif !r3 then f 6 else g)) else bif c.1=3 then zd b (ag e.2.2.1) ((uO (ah e.2.2.1 b.toNat (0,0,0,0,0,())) c.2.2.2.1).bind λr4=>f r4) else bif c.1=4 then zd a (ag d.2.2.1) (zd b (ag e.2.2.1) (bif !decide ((ah d.2.2.1 a.toNat (0,0,0,0,0,())).2.1=1) then h true else bif !decide ((ah d.2.2.1 a.toNat (0,0,0,0,0,())).2.2.1=1) then h true else bif !decide ((ah e.2.2.1 b.toNat (0,0,0,0,0,())).2.1=1) then h true else h (!decide ((ah e.2.2.1 b.toNat (0,0,0,0,0,())).2.2.1=1)))) else bif c.1=5 then(AL c.2.2.2.2.1).bind λr5=>bif !decide (r5.1=0) then i a b true c d e else i a b (decide (((ag c.2.2.2.2.1):Int)=0)) c d e else g
theorem acn{R S:Type}(F:R->ae S)(a)(b)(c)(d)(e)(f)(g)(h)(i):(K7 a b c d e f g h i).bind F=K7 a b c d e (λa0=>(f a0).bind F) ((g).bind F) (λa0=>(h a0).bind F) (λa0 a1 a2 a3 a4 a5=>(i a0 a1 a2 a3 a4 a5).bind F):=by simp only[K7,cP]
def zvd{R:Type}(a:Int->ae R):ae R:=
 a 0
def zo4{R:Type}(a:Bool)(b:Int->ae R)(c:ae R):ae R:=
 bif a then b 6 else c
def zo5{R:Type}(a b:Int)(c:Bool)(d:dg)(e f:bm)(g:Int->ae R)(h:Int->Int->dg->bm->bm->ae R):ae R:=
 bif c then g 15 else h a b d e f
def V5{R:Type}(a b:Int)(c:dg)(d e:bm)(f:Int->Int->Int->dg->bm->bm->ae R):ae R:=
 f a b 0 c d e
def S9{R:Type}(a b c:Int)(d:dg)(e f:bm)(g:Int->Int->Int->dg->bm->bm->ae R)(h:ae R):ae R:=
 bif c<((ag d.2.2.2.2.1):Int) then g a b c d e f else h
def V6{R:Type}(a b c:Int)(d:dg)(e f:bm)(g:Int->ae R)(h:Int->Int->Int->dg->bm->bm->ae R):ae R:=
 zd a (ag e.2.2.1) (zd c (ag d.2.2.2.2.1) ((uO (ah e.2.2.1 a.toNat (0,0,0,0,0,())) (ah d.2.2.2.2.1 c.toNat (bs [],bs [],())).1).bind λr6=>bif !decide (r6=0) then g r6 else h a b c d e f))
def zo6{R:Type}(a:ae R):ae R:=
 a
def zo7{R:Type}(a:Int)(b:Int->ae R):ae R:=
 b a
def V7{R:Type}(a b c:Int)(d:dg)(e f:bm)(g:Int->ae R)(h:Int->Int->Int->dg->bm->bm->ae R):ae R:=
 zd b (ag f.2.2.1) (zd c (ag d.2.2.2.2.1) ((uO (ah f.2.2.1 b.toNat (0,0,0,0,0,())) (ah d.2.2.2.2.1 c.toNat (bs [],bs [],())).2.1).bind λr7=>bif !decide (r7=0) then g r7 else h a b c d e f))
def V8{R:Type}(a b c:Int)(d:dg)(e f:bm)(g:Int->Int->Int->dg->bm->bm->ae R):ae R:=
 g a b (zW zI (c+1)) d e f
def C3:Nat->Int->Int->Int->dg->bm->bm->ae (Sum Unit Int)
 |0,_,_,_,_,_,_=>none
 |k+1,v0,v1,v2,v3,v4,v5=>S9 v0 v1 v2 v3 v4 v5 (λa0 a1 a2 a3 a4 a5=>V6 a0 a1 a2 a3 a4 a5 (λa0=>some (.inr a0)) (λa0 a1 a2 a3 a4 a5=>V7 a0 a1 a2 a3 a4 a5 (λa0=>some (.inr a0)) (λa0 a1 a2 a3 a4 a5=>V8 a0 a1 a2 a3 a4 a5 (λa0 a1 a2 a3 a4 a5=>C3 k a0 a1 a2 a3 a4 a5)))) (some (.inl ()))
def Wz:ae Int:=
 zvd (λa0=>some a0)
def zv8(a:Bool):ae Int:=
 zo4 a (λa0=>some a0) Wz
def S8(a b:Int)(c:dg)(d f:bm):ae Int:=
 V5 a b c d f (λa0 a1 a2 a3 a4 a5=>(C3 bE a0 a1 a2 a3 a4 a5).bind λe=>aA (λ(we:Unit)=>zo6 Wz) (λ(we:Int)=>zo7 we (λa0=>some a0)) e)
def zo3(a b:Int)(c:Bool)(d:dg)(e f:bm):ae Int:=
 zo5 a b c d e f (λa0=>some a0) (λa0 a1 a2 a3 a4=>S8 a0 a1 a2 a3 a4)
def Tm(a b:Int)(c:dg)(d e:bm):ae Int:=
 K7 a b c d e (λa0=>some a0) Wz (λa0=>zv8 a0) (λa0 a1 a2 a3 a4 a5=>zo3 a0 a1 a2 a3 a4 a5)
def zv7(a b:Int)(c:Bool)(d:dg)(e f:bm):ae Int:=
 zvc a b c d e f (λa0=>some a0) (λa0 a1 a2 a3 a4=>Tm a0 a1 a2 a3 a4)
def JM(a b:Int)(c:dg)(d e:bm):ae Int:=
 z87 a b c d e (λa0 a1 a2 a3 a4 a5=>zv7 a0 a1 a2 a3 a4 a5)
def zv6(a b:Int)(c:Bool)(d:dg)(e f:bm):ae Int:=
 zvb a b c d e f (λa0=>some a0) (λa0 a1 a2 a3 a4=>JM a0 a1 a2 a3 a4)
def Tl(a b:Int)(c:dg)(d e:bm):ae Int:=
 K6 a b c d e (λa0 a1 a2 a3 a4 a5=>zv6 a0 a1 a2 a3 a4 a5)
def Hb(a b:Int)(c:Bool)(d:dg)(e f:bm):ae Int:=
 zva a b c d e f (λa0=>some a0) (λa0 a1 a2 a3 a4=>Tl a0 a1 a2 a3 a4)
def Wy(a:dg)(b c:bm):ae Int:=
 z85 a b c (λa0 a1 a2 a3 a4 a5=>Hb a0 a1 a2 a3 a4 a5)
def zv5(a:Bool)(b:dg)(c d:bm):ae Int:=
 zv9 a b c d (λa0=>some a0) (λa0 a1 a2=>Wy a0 a1 a2)
def AN(a:dg)(b c:bm):ae Int:=
 K5 a b c (λa0 a1 a2 a3=>zv5 a0 a1 a2 a3)
def WL{R:Type}(a:c9)(b:Bool->ae R)(c:Int->c9->ae R):ae R:=
 bif 300<((ag a.1):Int) then b true else bif 300<((ag a.2.1):Int) then b true else c 0 a
def Tt{R:Type}(a:Int)(b:c9)(c:Bool->c9->ae R)(d:Int->c9->ae R)(e:c9->ae R):ae R:=
 bif a<((ag b.1):Int) then zd a (ag b.1) (bif 100<(((ah b.1 a.toNat (bs [],bs [],())).1).size:Int) then c true b else zd a (ag b.1) (bif 100<(((ah b.1 a.toNat (bs [],bs [],())).2.1).size:Int) then c true b else d (zW zI (a+1)) b)) else e b
def zvq{R:Type}(a:Bool)(b:c9)(c:Bool->ae R):ae R:=
 c a
def WM{R:Type}(a:c9)(b:Int->c9->ae R):ae R:=
 b 0 a
def zvr{R:Type}(a:Int)(b:c9)(c:Bool->ae R)(d:Int->c9->ae R)(e:ae R):ae R:=
 bif a<((ag b.2.1):Int) then zd a (ag b.2.1) ((wh (ah b.2.1 a.toNat (0,0,0,bs [],[],()))).bind λr1=>bif r1 then c true else d (zW zI (a+1)) b) else e
def zvs{R:Type}(a:Bool)(b:Bool->ae R):ae R:=
 b a
def zvt{R:Type}(a:Bool->ae R):ae R:=
 a false
def ET:Nat->Int->c9->ae (Sum (Bool×c9) c9)
 |0,_,_=>none
 |k+1,v0,v1=>Tt v0 v1 (λa0 a1=>some (.inl (a0,a1))) (λa0 a1=>ET k a0 a1) (λa0=>some (.inr a0))
def Ts:Nat->Int->c9->ae (Sum Bool Unit)
 |0,_,_=>none
 |k+1,v0,v1=>zvr v0 v1 (λa0=>some (.inl a0)) (λa0 a1=>Ts k a0 a1) (some (.inr ()))
def tP(a:c9):ae Bool:=
 WL a (λa0=>some a0) (λa0 a1=>(ET bE a0 a1).bind λe=>aA (λ(we:(Bool×c9))=>zvq we.1 we.2 (λa0=>some a0)) (λ(we:c9)=>WM we (λa0 a1=>(Ts bE a0 a1).bind λe=>aA (λ(we:Bool)=>zvs we (λa0=>some a0)) (λ(we:Unit)=>zvt (λa0=>some a0)) e)) e)
def WO{R:Type}(a:af)(b:Int)(c:Bool->ae R):ae R:=
 (AJ a).bind λr1=>bif r1 then zd 0 a.size (c (decide (zW zI (zW zI (ze a ((0:Int)).toNat)-48)=b))) else c false
def yC(a:af)(b:Int):ae Bool:=
 WO a b (λa0=>some a0)
def WN{R:Type}(a b:dg)(c:Bool->ae R):ae R:=
 bif !decide (a.2.1=0) then bif a.2.1=b.2.1 then c true else bif !decide (a.2.2.1=0) then c (decide (a.2.2.1=b.2.2.1)) else c false else bif !decide (a.2.2.1=0) then c (decide (a.2.2.1=b.2.2.1)) else c false
def AP(a b:dg):ae Bool:=
 WN a b (λa0=>some a0)
def WG{R:Type}(a:c9)(b c:bm)(d:Int->Int->Int->ae R)(e:Int->c9->bm->bm->ae R):ae R:=
 (wg b).bind λr1=>bif !r1 then d 1 1 0 else(wg c).bind λr2=>bif !r2 then d 1 1 1 else bif 256<((ag a.1):Int) then d 5 2 256 else e 0 a b c
def Tp{R:Type}(a:Int)(b:c9)(c d:bm)(e:Int->Int->Int->c9->bm->bm->ae R)(f:Int->c9->bm->bm->ae R)(g:c9->bm->bm->ae R):ae R:=
 bif a<((ag b.1):Int) then zd a (ag b.1) ((yC (ah b.1 a.toNat (bs [],bs [],())).1 c.2.1).bind λr3=>bif !r3 then e 7 2 a b c d else(yC (ah b.1 a.toNat (bs [],bs [],())).2.1 d.2.1).bind λr4=>bif !r4 then e 7 2 a b c d else(yA (ah b.1 a.toNat (bs [],bs [],())).1).bind λr5=>(yA (ah b.1 a.toNat (bs [],bs [],())).2.1).bind λr6=>bif !(r5==r6) then e 7 2 a b c d else bif 0<=a then bif a<=(((ag b.1):Nat):Int) then(AK (bk 0 (aI a.toNat b.1)) (ah b.1 a.toNat (bs [],bs [],())).1).bind λr7=>bif r7.2 then e 10 2 a b c d else f (zW zI (a+1)) b c d else none else none) else g b c d
def zvk{R:Type}(a b c:Int)(d:c9)(e f:bm)(g:Int->Int->Int->ae R):ae R:=
 g a b c
def WH{R:Type}(a:c9)(b c:bm)(d:Int->Int->Int->ae R)(e:Int->c9->bm->bm->ae R):ae R:=
 bif 256<((ag a.2.1):Int) then d 5 3 256 else e 0 a b c
def Tq{R:Type}(a:Int)(b:c9)(c d:bm)(e:Int->Int->Int->ae R)(f:Int->Int->c9->bm->bm->ae R)(g:ae R):ae R:=
 bif a<((ag b.2.1):Int) then zd a (ag b.2.1) ((AN (ah b.2.1 a.toNat (0,0,0,bs [],[],())) c d).bind λr8=>bif !decide (r8=0) then e r8 3 a else f a 0 b c d) else g
def zvl{R:Type}(a b c:Int)(d:Int->Int->Int->ae R):ae R:=
 d a b c
def zvm{R:Type}(a:Int->Int->Int->ae R):ae R:=
 a 0 0 0
def Tr{R:Type}(a b:Int)(c:c9)(d e:bm)(f:Int->Int->Int->Int->c9->bm->bm->ae R)(g:Int->Int->c9->bm->bm->ae R)(h:Int->c9->bm->bm->ae R):ae R:=
 bif b<a then zd b (ag c.2.1) (zd a (ag c.2.1) ((AP (ah c.2.1 b.toNat (0,0,0,bs [],[],())) (ah c.2.1 a.toNat (0,0,0,bs [],[],()))).bind λr9=>bif r9 then f 10 3 a a c d e else g a (zW zI (b+1)) c d e)) else h a c d e
def zvn{R:Type}(a b c d:Int)(e:c9)(f g:bm)(h:Int->Int->Int->ae R):ae R:=
 h a b c
def WI{R:Type}(a:Int)(b:c9)(c d:bm)(e:Int->c9->bm->bm->ae R):ae R:=
 e (zW zI (a+1)) b c d
def JN:Nat->Int->c9->bm->bm->ae (Sum tX tW)
 |0,_,_,_,_=>none
 |k+1,v0,v1,v2,v3=>Tp v0 v1 v2 v3 (λa0 a1 a2 a3 a4 a5=>some (.inl (a0,a1,a2,a3,a4,a5))) (λa0 a1 a2 a3=>JN k a0 a1 a2 a3) (λa0 a1 a2=>some (.inr (a0,a1,a2)))
def JP:Nat->Int->Int->c9->bm->bm->ae (Sum (Int×Int×Int×Int×c9×bm×bm) (Int×c9×bm×bm))
 |0,_,_,_,_,_=>none
 |k+1,v0,v1,v2,v3,v4=>Tr v0 v1 v2 v3 v4 (λa0 a1 a2 a3 a4 a5 a6=>some (.inl (a0,a1,a2,a3,a4,a5,a6))) (λa0 a1 a2 a3 a4=>JP k a0 a1 a2 a3 a4) (λa0 a1 a2 a3=>some (.inr (a0,a1,a2,a3)))
def JO:Nat->Int->c9->bm->bm->ae (Sum qw Unit)
 |0,_,_,_,_=>none
 |k+1,v0,v1,v2,v3=>Tq v0 v1 v2 v3 (λa0 a1 a2=>some (.inl (a0,a1,a2))) (λa0 a1 a2 a3 a4=>(JP bE a0 a1 a2 a3 a4).bind λe=>aA (λ(we:(Int×Int×Int×Int×c9×bm×bm))=>zvn we.1 we.2.1 we.2.2.1 we.2.2.2.1 we.2.2.2.2.1 we.2.2.2.2.2.1 we.2.2.2.2.2.2 (λa0 a1 a2=>some (.inl (a0,a1,a2)))) (λ(we:(Int×c9×bm×bm))=>WI we.1 we.2.1 we.2.2.1 we.2.2.2 (λa0 a1 a2 a3=>JO k a0 a1 a2 a3)) e) (some (.inr ()))
def AO(a:c9)(b c:bm):ae qw:=
 WG a b c (λa0 a1 a2=>some (a0,a1,a2)) (λa0 a1 a2 a3=>(JN bE a0 a1 a2 a3).bind λe=>aA (λ(we:tX)=>zvk we.1 we.2.1 we.2.2.1 we.2.2.2.1 we.2.2.2.2.1 we.2.2.2.2.2 (λa0 a1 a2=>some (a0,a1,a2))) (λ(we:tW)=>WH we.1 we.2.1 we.2.2 (λa0 a1 a2=>some (a0,a1,a2)) (λa0 a1 a2 a3=>(JO bE a0 a1 a2 a3).bind λe=>aA (λ(we:qw)=>zvl we.1 we.2.1 we.2.2 (λa0 a1 a2=>some (a0,a1,a2))) (λ(we:Unit)=>zvm (λa0 a1 a2=>some (a0,a1,a2))) e)) e)
def WW{R:Type}(a:ct)(b:Bool->ae R)(c:Int->ct->ae R):ae R:=
 bif 200<((ag a.1.2.2.1):Int) then b true else bif 300<((ag a.2.2.1):Int) then b true else bif 300<((ag a.2.2.2.1):Int) then b true else c 0 a
def zvz{R:Type}(a:Int)(b:ct)(c:Bool->ae R)(d:Int->ct->ae R)(e:ae R):ae R:=
 bif a<((ag b.2.2.2.1):Int) then zd a (ag b.2.2.2.1) (bif 1200<(((ah b.2.2.2.1 a.toNat (0,bs [],())).2.1).size:Int) then c true else d (zW zI (a+1)) b) else e
def zw0{R:Type}(a:Bool)(b:Bool->ae R):ae R:=
 b a
def zw1{R:Type}(a:Bool->ae R):ae R:=
 a false
def Tw:Nat->Int->ct->ae (Sum Bool Unit)
 |0,_,_=>none
 |k+1,v0,v1=>zvz v0 v1 (λa0=>some (.inl a0)) (λa0 a1=>Tw k a0 a1) (some (.inr ()))
def uG(a:ct):ae Bool:=
 WW a (λa0=>some a0) (λa0 a1=>(Tw bE a0 a1).bind λe=>aA (λ(we:Bool)=>zw0 we (λa0=>some a0)) (λ(we:Unit)=>zw1 (λa0=>some a0)) e)
def WY{R:Type}(a:cQ)(b c:Int)(d:cQ->Int->Int->Int->ae R):ae R:=
 d a b c 0
def Tx{R:Type}(a:cQ)(b c d:Int)(e:Int->ae R)(f:cQ->Int->Int->Int->ae R)(g:ae R):ae R:=
 bif d<b then zd d (ag a) (bif(ah a d.toNat (0,bs [],())).1=c then e d else f a b c (zW zI (d+1))) else g
def zw3{R:Type}(a:Int)(b:Int->ae R):ae R:=
 b a
def zw4{R:Type}(a:Int->ae R):ae R:=
 a (-1:Int)
def JS:Nat->cQ->Int->Int->Int->ae (Sum Int Unit)
 |0,_,_,_,_=>none
 |k+1,v0,v1,v2,v3=>Tx v0 v1 v2 v3 (λa0=>some (.inl a0)) (λa0 a1 a2 a3=>JS k a0 a1 a2 a3) (some (.inr ()))
def yD(a:cQ)(b c:Int):ae Int:=
 WY a b c (λa0 a1 a2 a3=>(JS bE a0 a1 a2 a3).bind λe=>aA (λ(we:Int)=>zw3 we (λa0=>some a0)) (λ(we:Unit)=>zw4 (λa0=>some a0)) e)
def WS{R:Type}(a:ct)(b:Int->Int->Int->ae R)(c:Int->Int->ct->ae R):ae R:=
 (wg a.1).bind λr1=>bif !r1 then b 1 1 0 else(Fw a.1 (39:Int)).bind λr2=>bif r2<0 then b 9 1 1 else c r2 0 a
def Tu{R:Type}(a b:Int)(c:ct)(d:Int->Int->Int->Int->ct->ae R)(e:Int->Int->ct->ae R)(f:Int->ct->ae R):ae R:=
 bif b<((ag c.2.2.1):Int) then zd b (ag c.2.2.1) ((Fw c.1 (ah c.2.2.1 b.toNat (0:Int))).bind λr3=>bif r3<0 then d 9 2 b a c else zd b (ag c.2.2.1) (bif ah c.2.2.1 b.toNat 0=39 then d 1 2 b a c else bif 0<=b then bif b<=(((ag c.2.2.1):Nat):Int) then zd b (ag c.2.2.1) ((L8 (bk 0 (aI b.toNat c.2.2.1)) (ah c.2.2.1 b.toNat (0:Int))).bind λr4=>bif r4 then d 10 2 b a c else e a (zW zI (b+1)) c) else none else none)) else f a c
def zvw{R:Type}(a b c d:Int)(e:ct)(f:Int->Int->Int->ae R):ae R:=
 f a b c
def WT{R:Type}(a:Int)(b:ct)(c:Int->Int->ct->ae R):ae R:=
 c a 0 b
def Tv{R:Type}(a b:Int)(c:ct)(d:Int->Int->Int->ct->ae R)(e:Int->Int->ct->ae R)(f:ct->ae R):ae R:=
 bif b<((ag c.2.2.2.1):Int) then zd b (ag c.2.2.2.1) (bif(ah c.2.2.2.1 b.toNat (0,bs [],())).1<0 then d 1 3 b c else zd b (ag c.2.2.2.1) (bif 16<(ah c.2.2.2.1 b.toNat (0,bs [],())).1 then d 1 3 b c else zd b (ag c.2.2.2.1) ((yD c.2.2.2.1 b (ah c.2.2.2.1 b.toNat (0,bs [],())).1).bind λr5=>bif 0<=r5 then d 10 3 b c else zd a (ag c.1.2.2.1) (zd b (ag c.2.2.2.1) ((uO (ah c.1.2.2.1 a.toNat (0,0,0,0,0,())) (ah c.2.2.2.1 b.toNat (0,bs [],())).2.1).bind λr6=>bif !decide (r6=0) then d r6 3 b c else e a (zW zI (b+1)) c))))) else f c
def zvx{R:Type}(a b c:Int)(d:ct)(e:Int->Int->Int->ae R):ae R:=
 e a b c
def WU{R:Type}(a:ct)(b:Int->Int->Int->ae R):ae R:=
 (yD a.2.2.2.1 ((ag a.2.2.2.1):Int) (0:Int)).bind λr7=>bif r7<0 then b 15 3 ((ag a.2.2.2.1):Int) else b 0 0 0
def JQ:Nat->Int->Int->ct->ae (Sum (Int×Int×Int×Int×ct) (Int×ct))
 |0,_,_,_=>none
 |k+1,v0,v1,v2=>Tu v0 v1 v2 (λa0 a1 a2 a3 a4=>some (.inl (a0,a1,a2,a3,a4))) (λa0 a1 a2=>JQ k a0 a1 a2) (λa0 a1=>some (.inr (a0,a1)))
def JR:Nat->Int->Int->ct->ae (Sum (Int×Int×Int×ct) ct)
 |0,_,_,_=>none
 |k+1,v0,v1,v2=>Tv v0 v1 v2 (λa0 a1 a2 a3=>some (.inl (a0,a1,a2,a3))) (λa0 a1 a2=>JR k a0 a1 a2) (λa0=>some (.inr a0))
def AQ(a:ct):ae qw:=
 WS a (λa0 a1 a2=>some (a0,a1,a2)) (λa0 a1 a2=>(JQ bE a0 a1 a2).bind λe=>aA (λ(we:(Int×Int×Int×Int×ct))=>zvw we.1 we.2.1 we.2.2.1 we.2.2.2.1 we.2.2.2.2 (λa0 a1 a2=>some (a0,a1,a2))) (λ(we:(Int×ct))=>WT we.1 we.2 (λa0 a1 a2=>(JR bE a0 a1 a2).bind λe=>aA (λ(we:(Int×Int×Int×ct))=>zvx we.1 we.2.1 we.2.2.1 we.2.2.2 (λa0 a1 a2=>some (a0,a1,a2))) (λ(we:ct)=>WU we (λa0 a1 a2=>some (a0,a1,a2))) e)) e)
def zwd{R:Type}(a:(List af))(b:(List af)->dZ->Int->ae R):ae R:=
 b a [] 0
def zwe{R:Type}(a:(List af))(b:dZ)(c:Int)(d:(List af)->dZ->Int->ae R)(e:dZ->ae R):ae R:=
 bif c<((ag a):Int) then zd c (ag a) (zd (zW zI (c+1)) (ag a) (bif(ag b+ag ([(ah a c.toNat (bs []),ah a (zW zI (c+(1:Int))).toNat (bs []),())]:List mF))*32<=140737488355328 then d a (b++([(ah a c.toNat (bs []),ah a (zW zI (c+(1:Int))).toNat (bs []),())]:List mF)) (zW zI (c+2)) else none)) else e b
def zwf{R:Type}(a:dZ)(b:dZ->ae R):ae R:=
 b a
def W8:Nat->(List af)->dZ->Int->ae dZ
 |0,_,_,_=>none
 |k+1,v0,v1,v2=>zwe v0 v1 v2 (λa0 a1 a2=>W8 k a0 a1 a2) (λa0=>some a0)
def AV(a:(List af)):ae dZ:=
 zwd a (λa0 a1 a2=>(W8 bE a0 a1 a2).bind λe=>zwf e (λa0=>some a0))
def zwa{R:Type}(a:js->(List Int)->Int->ae R):ae R:=
 Hs.bind λr1=>a [] r1 0
def zwb{R:Type}(a:js)(b:(List Int))(c:Int)(d:js->(List Int)->Int->ae R)(e:js->ae R):ae R:=
 bif c<((ag b):Int) then zd c (ag b) (bif ah b c.toNat 0=12 then zd c (ag b) (zd c (ag b) (bif(ag a+ag ([((4:Int),ah b c.toNat (0:Int),ah b c.toNat (0:Int),bs [],([]:List mF),())]:List dg))*64<=140737488355328 then d (a++([(4,ah b c.toNat 0,ah b c.toNat 0,bs [],[],())]:List dg)) b (zW zI (c+1)) else none)) else zd c (ag b) (zd c (ag b) (bif(ag a+ag ([((1:Int),ah b c.toNat (0:Int),ah b c.toNat (0:Int),bs [],([]:List mF),())]:List dg))*64<=140737488355328 then d (a++([(1,ah b c.toNat 0,ah b c.toNat 0,bs [],[],())]:List dg)) b (zW zI (c+1)) else none))) else e a
def zwc{R:Type}(a:js)(b:js->ae R):ae R:=
 b a
def W6:Nat->js->(List Int)->Int->ae js
 |0,_,_,_=>none
 |k+1,v0,v1,v2=>zwb v0 v1 v2 (λa0 a1 a2=>W6 k a0 a1 a2) (λa0=>some a0)
def Df:ae js:=
 zwa (λa0 a1 a2=>(W6 bE a0 a1 a2).bind λe=>zwc e (λa0=>some a0))
def zw9{R:Type}(a b c:af)(d:cQ->ae R):ae R:=
 d ([(0,a,()),(2,b,()),(3,b,()),(12,b,()),(9,b,()),(15,c,())]:List eS)
def De(a b c:af):ae cQ:=
 zw9 a b c (λa0=>some a0)
def zw5{R:Type}(a:er->ae R):ae R:=
 (AV ([(bs [48,49,48,48]),bs [49,49,48,48],bs [48,49,49,48],bs [49,49,49,48],bs [48,50,48,48],bs [49,50,48,48],bs [48,50,49,48],bs [49,50,49,48],bs [48,50,50,48],bs [49,50,50,48],bs [48,50,51,48],bs [49,50,51,48],bs [48,52,48,48],bs [49,52,48,48],bs [48,52,49,48],bs [49,52,49,48],bs [48,52,50,48],bs [49,52,50,48],bs [48,52,51,48],bs [49,52,51,48],bs [48,56,48,48],bs [49,56,48,52],bs [48,56,49,48],(bs [49,56,49,52])]:List af)).bind λr1=>(AV ([(bs [48,53,49]),bs [53,49,48,49,48,49,53,49,49,51,52,52],bs [48,50,49],bs [50,49,48,49,48,49,50,49,49,51,52,52],bs [48,49,50],(bs [49,48,48,49,52,48,49,48,48,49,49,48])]:List af)).bind λr2=>(AV ([(bs [48,48]),bs [48,48,48],bs [48,53],bs [49,48,48],bs [49,52],bs [49,49,49],bs [53,49],bs [49,49,54],bs [53,52],bs [49,48,49],bs [57,49],bs [57,48,55],bs [57,54],(bs [57,48,57])]:List af)).bind λr3=>Df.bind λr4=>bif(ag r4+ag ([((2:Int),(13:Int),(0:Int),bs [],([]:List mF),()),((2:Int),(18:Int),(0:Int),bs [],([]:List mF),()),((2:Int),(90:Int),(0:Int),bs [],([]:List mF),()),((5:Int),(22:Int),(22:Int),bs [],r2,()),((5:Int),(39:Int),(39:Int),bs [],r3,()),((1:Int),(43:Int),(43:Int),bs [],([]:List mF),()),((1:Int),(48:Int),(48:Int),bs [],([]:List mF),()),((3:Int),(0:Int),(26:Int),bs [53,57,57,57],([]:List mF),())]:List dg))*64<=140737488355328 then Df.bind λr5=>(AM r2).bind λr6=>(AM r3).bind λr7=>bif(ag r5+ag ([((2:Int),(26:Int),(0:Int),bs [],([]:List mF),()),((2:Int),(43:Int),(0:Int),bs [],([]:List mF),()),((5:Int),(22:Int),(22:Int),bs [],r6,()),((5:Int),(39:Int),(39:Int),bs [],r7,()),((1:Int),(48:Int),(48:Int),bs [],([]:List mF),())]:List dg))*64<=140737488355328 then(AH (0:Int)).bind λr8=>(De (bs [57,54]) (bs [51,48]) (bs [49,50])).bind λr9=>zd 0 2 ((AH (1:Int)).bind λum=>(AM r1).bind λvC=>bif(ag ([]:List Int)+ag ([(2:Int),(3:Int),(4:Int),(7:Int),(11:Int),(12:Int),(32:Int),(37:Int),(41:Int),(42:Int),(70:Int)]:List Int))*8<=140737488355328 then(De (bs [57,48,57]) (bs [57,48,52]) (bs [57,48,50])).bind λyj=>zd 1 2 (a (cK (cK (aB 2 ((0,0,[],()),([],[],()),[],[],())) ((0:Int)).toNat (r8,(r1,r4++([(2,13,0,bs [],[],()),(2,18,0,bs [],[],()),(2,90,0,bs [],[],()),(5,22,22,bs [],r2,()),(5,39,39,bs [],r3,()),(1,43,43,bs [],[],()),(1,48,48,bs [],[],()),(3,0,26,bs [53,57,57,57],[],())]:List dg),()),([2,3,4,7,11,12,32,37,41,42,70]:List Int),r9,())) ((1:Int)).toNat (um,(vC,r5++([(2,26,0,bs [],[],()),(2,43,0,bs [],[],()),(5,22,22,bs [],r6,()),(5,39,39,bs [],r7,()),(1,48,48,bs [],[],())]:List dg),()),[]++([2,3,4,7,11,12,32,37,41,42,70]:List Int),yj,()),4096,())) else none) else none else none
def Dd:ae er:=
 zw5 (λa0=>some a0)
def W3{R:Type}(a:er)(b:Bool->ae R):ae R:=
 zd 0 2 ((uG (ah a.1 ((0:Int)).toNat ((0,0,[],()),([],[],()),[],[],()))).bind λr1=>bif r1 then b true else zd 1 2 ((uG (ah a.1 ((1:Int)).toNat ((0,0,[],()),([],[],()),[],[],()))).bind λr2=>bif r2 then b true else zd 0 2 ((tP (ah a.1 ((0:Int)).toNat ((0,0,[],()),([],[],()),[],[],())).2.1).bind λr3=>bif r3 then b true else zd 1 2 ((tP (ah a.1 ((1:Int)).toNat ((0,0,[],()),([],[],()),[],[],())).2.1).bind λr4=>b r4))))
def yE(a:er):ae Bool:=
 W3 a (λa0=>some a0)
def W0{R:Type}(a:er)(b:Int->Int->Int->ae R)(c:Int->er->ae R):ae R:=
 bif a.2.1<1 then b 5 2 0 else bif 65535<a.2.1 then b 5 2 0 else c 0 a
def K8{R:Type}(a:Int)(b:er)(c:Int->Int->Int->ae R)(d:Int->er->ae R)(e:ae R):ae R:=
 bif a<2 then zd a 2 ((AQ (ah b.1 a.toNat ((0,0,[],()),([],[],()),[],[],()))).bind λr1=>bif !decide (r1.1=0) then c r1.1 a 1 else zd a 2 (zd a 2 (zd (zW zI (1-a)) 2 ((AO (ah b.1 a.toNat ((0,0,[],()),([],[],()),[],[],())).2.1 (ah b.1 a.toNat ((0,0,[],()),([],[],()),[],[],())).1 (ah b.1 (zW zI (1-a)).toNat ((0,0,[],()),([],[],()),[],[],())).1).bind λr2=>bif !decide (r2.1=0) then c r2.1 a 2 else d (zW zI (a+1)) b)))) else e
def zw7{R:Type}(a b c:Int)(d:Int->Int->Int->ae R):ae R:=
 d a b c
def zw8{R:Type}(a:Int->Int->Int->ae R):ae R:=
 a 0 0 0
def JT:Nat->Int->er->ae (Sum qw Unit)
 |0,_,_=>none
 |k+1,v0,v1=>K8 v0 v1 (λa0 a1 a2=>some (.inl (a0,a1,a2))) (λa0 a1=>JT k a0 a1) (some (.inr ()))
def AR(a:er):ae qw:=
 W0 a (λa0 a1 a2=>some (a0,a1,a2)) (λa0 a1=>(JT bE a0 a1).bind λe=>aA (λ(we:qw)=>zw7 we.1 we.2.1 we.2.2 (λa0 a1 a2=>some (a0,a1,a2))) (λ(we:Unit)=>zw8 (λa0 a1 a2=>some (a0,a1,a2))) e)
def W4{R:Type}(a:er)(b:Bool->ae R):ae R:=
 (AR a).bind λr1=>b (decide (r1.1=0))
def AU(a:er):ae Bool:=
 W4 a (λa0=>some a0)
def Xa{R:Type}(a b:mY)(c:Bool->ae R)(d:mY->mY->Int->ae R):ae R:=
 bif !decide (((ag a):Int)=((ag b):Int)) then c false else d a b 0
def zwh{R:Type}(a b:mY)(c:Int)(d:Bool->ae R)(e:mY->mY->Int->ae R)(f:ae R):ae R:=
 bif c<((ag a):Int) then zd c (ag a) (zd c (ag b) (bif !(decide ((ah a c.toNat (0,0,bs [],0,())).1=(ah b c.toNat (0,0,bs [],0,())).1)&&(decide ((ah a c.toNat (0,0,bs [],0,())).2.1=(ah b c.toNat (0,0,bs [],0,())).2.1)&&(decide ((ah a c.toNat (0,0,bs [],0,())).2.2.1=(ah b c.toNat (0,0,bs [],0,())).2.2.1)&&(decide ((ah a c.toNat (0,0,bs [],0,())).2.2.2.1=(ah b c.toNat (0,0,bs [],0,())).2.2.2.1)&&true)))) then d false else e a b (zW zI (c+1)))) else f
def Xb{R:Type}(a:Bool)(b:Bool->ae R):ae R:=
 b a
def Xc{R:Type}(a:Bool->ae R):ae R:=
 a true
def Tz:Nat->mY->mY->Int->ae (Sum Bool Unit)
 |0,_,_,_=>none
 |k+1,v0,v1,v2=>zwh v0 v1 v2 (λa0=>some (.inl a0)) (λa0 a1 a2=>Tz k a0 a1 a2) (some (.inr ()))
def yF(a b:mY):ae Bool:=
 Xa a b (λa0=>some a0) (λa0 a1 a2=>(Tz bE a0 a1 a2).bind λe=>aA (λ(we:Bool)=>Xb we (λa0=>some a0)) (λ(we:Unit)=>Xc (λa0=>some a0)) e)
def zwi{R:Type}(a:Bool->ae R):ae R:=
 (AH (0:Int)).bind λr1=>(uL r1 (bs [48,56,48,48],([(11,bs [48,48,48,48,48,49],())]:List eS),())).bind λr2=>(wy r1 r2.1).bind λr3=>Dd.bind λr4=>(wu r4 0 r2.1).bind λr5=>Dd.bind λr6=>bif r2.1.size+(bs [48]).size<=9223372036854775807 then(wu r6 0 (r2.1++bs [48])).bind λr7=>bif r2.1=bs [48,56,48,48,48,48,50,48,48,48,48,48,48,48,48,48,48,48,48,48,48,48,48,48,48,49] then bif decide (r2.2.1=0)&&(decide (r2.2.2.1=0)&&true) then bif((ag r3.1.2.1):Int)=1 then bif decide (r3.2.1=0)&&(decide (r3.2.2.1=0)&&true) then bif r5.1=1 then bif(r5.2.size:Int)=15 then bif r7.1=2 then a (decide (r7.2=bs [48,56,49,48,48,48,50,48,48,48,48,48,48,50,48,48,48,48,48,48,48,48,48,48,48,49,51,48])) else a false else a false else a false else a false else a false else a false else a false else none
def rG:ae Bool:=
 zwi (λa0=>some a0)
def Xd{R:Type}(a:er)(b:Int)(c:(List af))(d:Bool->ae R):ae R:=
 rG.bind λr1=>bif !r1 then rG.bind λr2=>d r2 else(yE a).bind λr3=>bif r3 then rG.bind λr4=>d r4 else(AU a).bind λr5=>bif !r5 then rG.bind λr6=>d r6 else zd 0 2 (bif 1500<((ah c ((0:Int)).toNat (bs [])).size:Int) then rG.bind λr7=>d r7 else zd 1 2 (bif 1500<((ah c ((1:Int)).toNat (bs [])).size:Int) then rG.bind λr8=>d r8 else bif b<0 then rG.bind λr9=>d r9 else bif 1<b then rG.bind λum=>d um else(HA a).bind λvC=>aA (λ(ON:Int)=>(HA a).bind λyj=>aA (λ(ab4:Int)=>d false) (λ(ab4:(Int×(er×(ae cR×ae cR)×Int)))=>d false) yj) (λ(ON:(Int×(er×(ae cR×ae cR)×Int)))=>(HA a).bind λvP=>aA (λ(OO:Int)=>d false) (λ(OO:(Int×(er×(ae cR×ae cR)×Int)))=>zd 0 2 (bif(bs [0,0]).size+(ah c ((0:Int)).toNat (bs [])).size<=9223372036854775807 then(Fl ON.2 (b,bs [0,0]++ah c ((0:Int)).toNat (bs []),())).bind λCO=>zd 0 2 ((Fl CO.2 (b,ah c ((0:Int)).toNat (bs []),())).bind λAp=>zd 1 2 ((Fl Ap.2 (zW zI (1-b),ah c ((1:Int)).toNat (bs []),())).bind λCP=>zd 1 2 ((Fl OO.2 (zW zI (1-b),ah c ((1:Int)).toNat (bs []),())).bind λEC=>(yF CO.1 ([(b,4,bs [],0,())]:List uR)).bind λED=>bif ED then bif((ag Ap.1):Int)=0 then(yF CP.1 EC.1).bind λzQ=>bif zQ then(L0 CP.2 b).bind λCQ=>bif CQ.1 then(L1 CQ.2 b).bind λCi=>d (decide (Ci.1=0)) else d false else d false else d false else d false))) else none)) vP) vC))
def AW(a:er)(b:Int)(c:(List af)):ae Bool:=
 Xd a b c (λa0=>some a0)
end eL

namespace eL
open Go.IntKind renaming wrap->zW,i64->zI,u8->zU
theorem zT{p:Prop}[Decidable p](h:p):decide p=true:=_root_.decide_eq_true h
theorem zF{p:Prop}[Decidable p](h:¬p):decide p=false:=_root_.decide_eq_false h
theorem zC{α:Type}{a b:α}:(bif true then a else b)=a:=rfl
theorem zD{α:Type}{a b:α}:(bif false then a else b)=b:=rfl
open Go Go.Ref
theorem zr:bE=18446744073709551616:=by unfold bE;rfl
theorem zh:maxLen=9223372036854775807:=rfl
theorem zk{x:Int}(h1: -9223372036854775808<=x)(h2:x<=9223372036854775807):zW zI x=x:=Jr h1 h2
theorem EX{n:Nat}(h:n<=9223372036854775807):zW zI (n:Int)=n:=Jr (by omega) (by omega)
theorem zu{j:Nat}(h:j<9223372036854775807):zW zI ((j:Int)+1)=((j+1:Nat):Int):=by rw[Jr (by omega) (by omega)];rfl
theorem R6(x:Int):IntKind.u64.wrap x=x % 18446744073709551616:=by simp [l4,kZ,eX]
theorem Jq(x:Int):zW zU x=x % 256:=by simp [l4,kZ,eX]
theorem aog{x:Int}(h1:0<=x)(h2:x<18446744073709551616):IntKind.u64.wrap x=x:=by rw[R6];omega
theorem Cr{x:Int}(h1:0<=x)(h2:x<256):zW zU x=x:=by rw[Jq];omega
theorem zi{R:Type}{j n:Nat}{x:ae R}(h:j<n):zd (j:Int) n x=x:=ahR h
theorem zm{R:Type}{i:Int}{n:Nat}{x:ae R}(h0:0<=i)(h:i<n):zd i n x=x:=by unfold zd;rw[zT h0,zT h];rfl
theorem amr{R:Type}{p:Prop}[Decidable p](x y:R):(bif decide p then x else y)=if p then x else y:=by by_cases h:p<;>simp [h]
def bl(s:af):List Int:=s.data.toList.map λb=>(b.toNat:Int)
theorem Kg{a b:af}(h:bl a=bl b):a=b:=by apply ByteArray.ext;apply lI;unfold bl at h;have:Function.Injective (λb:UInt8=>(b.toNat:Int)):=λx y GD=>UInt8.toNat_inj.1 (Int.ofNat.inj GD);exact(List.map_inj_right (λx y h=>this h)).1 h
theorem Nc{a b:af}:a=b↔bl a=bl b:=⟨λh=>by rw[h],Kg⟩
theorem zg(s:af):(bl s).length=s.size:=by unfold bl;rw[List.length_map];rfl
theorem yr(a b:af):bl (a++b)=bl a++bl b:=by simp [bl,dS]
theorem CU(s:af)(i j:Nat):bl (s.extract i j)=((bl s).take j).drop i:=by unfold bl;rw[ByteArray.data_extract,Array.toList_extract,List.extract_eq_drop_take',List.map_drop,List.map_take]
theorem uy(s:af)(i:Nat):ze s i=(bl s).getD i 0:=by
 unfold ze bl;split
 ·rename_i h;have h':i<s.data.toList.length:=h;rw[aq,aL,au h'];rfl
 ·rename_i h;have h':s.data.toList.length<=i:=Nat.le_of_not_lt h;rw[aq,aQ (by simpa using h')];rfl
def zn(n:Int):Prop:=0<=n/\n<256
theorem sY{s:af}{x:Int}(h:x∈bl s):zn x:=by unfold bl at h;obtain⟨b,_,rfl⟩:=List.mem_map.1 h;have:=b.toNat_lt;unfold zn;omega
theorem Cy{xs:List Int}(h:∀x∈xs,zn x):bl (strOf xs)=xs:=by
 simp only[bl,strOf,List.map_map]
 conv=>rhs;rw[<-List.map_id xs]
 apply dL;intro x hx;have:=h x hx;unfold zn at this;simp only[Function.comp,id];rw[jE (by show x.toNat<256;omega)];omega
theorem JJ(s:af):strOf (bl s)=s:=Kg (Cy λx hx=>sY hx)
theorem F7{l:List Nat}(h:∀x∈l,x<256):bl (bs l)=l.map (λn:Nat=>(n:Int)):=by simp only[bl,bs,List.map_map];apply dL;intro x hx;have:=h x hx;simp only[Function.comp];rw[jE (by show x<256;omega)]
theorem Qf:bl (bs [])=[]:=rfl
theorem zd2{s:af}:s=bs []↔bl s=[]:=by rw[Nc,Qf]
theorem CV(xs:List Int):(strOf xs).size=xs.length:=by rw[<-zg];unfold bl strOf;simp
section
variable {α σ ρ:Type}
end
end eL
namespace eL
open Go.IntKind renaming wrap->zW,i64->zI,u8->zU
open Go Go.Ref
section
variable {α σ ρ:Type}
def fa(g:Int->α->σ->(σ->ae ρ)->ae ρ)(fin:σ->ae ρ):List α->Int->σ->ae ρ
 | [],_,s=>fin s
 |x::r,i,s=>g i x s λs'=>fa g fin r (i+1) s'
theorem SB(d:α)(xs:List α)(hlen:xs.length<=9223372036854775807)(g:Int->α->σ->(σ->ae ρ)->ae ρ)(fin:σ->ae ρ)(L:Nat->Int->σ->ae ρ)
 (step:∀k (i:Int) s,L (k+1) i s=bif decide (i<(xs.length:Int)) then zd i xs.length (g i (xs.getD i.toNat d) s λs'=>L k (zW zI (i+1)) s') else fin s):
 ∀(m j k:Nat) (s:σ),j+m=xs.length->m<k->L k j s=fa g fin (xs.drop j) j s
 |0,j,k,s,hj,hk=>by
  obtain⟨k,rfl⟩:∃k',k=k'+1:=⟨k-1,by omega⟩
  rw[step,zF (by omega),List.drop_eq_nil_of_le (by omega)];rfl
 |m+1,j,k,s,hj,hk=>by
  obtain⟨k,rfl⟩:∃k',k=k'+1:=⟨k-1,by omega⟩
  have bS:j<xs.length:=by omega
  rw[step,zT (by omega),zC,zi bS,aM bS,fa];have hx:xs.getD ((j:Int)).toNat d=xs[j]:=by rw[Int.toNat_natCast,aq,au bS];rfl
  rw[hx];congr 1
  funext s'
  rw[zu (by omega),SB d xs hlen g fin L step m (j+1) k s' (by omega) (by omega)];rfl
theorem jz(d:α)(xs:List α)(hlen:xs.length<=maxLen)(g:Int->α->σ->(σ->ae ρ)->ae ρ)(fin:σ->ae ρ)(L:Nat->Int->σ->ae ρ)
 (step:∀k (i:Int) s,L (k+1) i s=bif decide (i<(xs.length:Int)) then zd i xs.length (g i (xs.getD i.toNat d) s λs'=>L k (zW zI (i+1)) s') else fin s) (s:σ):L bE 0 s=fa g fin xs 0 s:=by
 rw[zh] at hlen;have:=SB d xs hlen g fin L step xs.length 0 bE s (by omega) (by rw[zr];omega);rw[aO] at this;exact this
theorem SC(d:α)(xs:List α)(hlen:xs.length<=9223372036854775807)(g:Int->α->σ->(σ->ae ρ)->ae ρ)(fin:σ->ae ρ)(L:Nat->Int->σ->ae ρ)
 (step:∀k (i:Int) s,0<=i->i<(xs.length:Int)->L (k+1) i s=g i (xs.getD i.toNat d) s λs'=>L k (zW zI (i+1)) s') (stop:∀k s,L (k+1) (xs.length:Int) s=fin s):
 ∀(m j k:Nat) (s:σ),j+m=xs.length->m<k->L k j s=fa g fin (xs.drop j) j s
 |0,j,k,s,hj,hk=>by
  obtain⟨k,rfl⟩:∃k',k=k'+1:=⟨k-1,by omega⟩
  have:j=xs.length:=by omega
  subst this;rw[stop,List.drop_length];rfl
 |m+1,j,k,s,hj,hk=>by
  obtain⟨k,rfl⟩:∃k',k=k'+1:=⟨k-1,by omega⟩
  have bS:j<xs.length:=by omega
  rw[step k j s (by omega) (by omega),aM bS,fa];have hx:xs.getD ((j:Int)).toNat d=xs[j]:=by rw[Int.toNat_natCast,aq,au bS];rfl
  rw[hx];congr 1
  funext s'
  rw[zu (by omega),SC d xs hlen g fin L step stop m (j+1) k s' (by omega) (by omega)];rfl
theorem yh(d:α)(xs:List α)(hlen:xs.length<=maxLen)(g:Int->α->σ->(σ->ae ρ)->ae ρ)(fin:σ->ae ρ)(L:Nat->Int->σ->ae ρ)
 (step:∀k (i:Int) s,0<=i->i<(xs.length:Int)->L (k+1) i s=g i (xs.getD i.toNat d) s λs'=>L k (zW zI (i+1)) s') (stop:∀k s,L (k+1) (xs.length:Int) s=fin s) (s:σ):L bE 0 s=fa g fin xs 0 s:=by
 rw[zh] at hlen;have:=SC d xs hlen g fin L step stop xs.length 0 bE s (by omega) (by rw[zr];omega);rw[aO] at this;exact this
end
end eL

