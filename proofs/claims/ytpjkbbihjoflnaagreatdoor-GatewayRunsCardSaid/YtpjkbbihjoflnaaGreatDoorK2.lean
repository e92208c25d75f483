/- No condition. -/
import Derived.Test.YtpjkbbihjoflnaaGreatDoorK1
import Derived.OpenShut
import Derived.Deep.Slices
import Derived.Shelf.Strings.Repeat
import Derived.KernelRfl
set_option linter.unusedVariables false
set_option linter.unusedSimpArgs false
set_option maxRecDepth 100000
open Array renaming getElem?_eq_getElem->XN
open Bool renaming and_eq_true->nd,not_eq_true'->zbT
open Go renaming undef->zaj
open Go.Cell renaming okWide->zgQ
open Go.DataW renaming trod->zdK
open Go.Lib renaming strCells->zcO
open Go.Result renaming andThen_ok->fv
open Go.RowKit renaming Below->zej
open Go.Sem renaming run_bind->BY,run_pure->GP
open Go.Utf8 renaming decode->zbQ
open Go.Value renaming okWide->zf6
open Go.World renaming cell?->zaP
open Int renaming tdiv->zaf,fdiv->zal,tmod->zaN
open List renaming length->aa,getD->an,getD_eq_getElem?_getD->be,getElem?_eq_getElem->ks,replicate->so,getElem?_eq_some_iff->AS,mem_cons_of_mem->Cs,mem_cons->If,take->It,mem_of_getElem?->IH,getElem?_map->IN,getElem?_eq_none->IT,all_eq_true->OF,getElem?_append_right->zaa,drop->zac,getElem?_append_left->zap,getElem?_cons_succ->zax,getElem?_cons_zero->zaB,mem_singleton->zaM,set->za1,any_eq_false->za9,mem_iff_getElem?->zbi,not_mem_nil->zbk,getElem?_replicate->zbH
open Nat renaming beq->xz,eq_of_beq_eq_true->DD,le_refl->zag,ble->zaL
open Option renaming map_eq_some_iff->nl
open Option.some renaming injEq->AI
open Sum renaming elim->GB
namespace Go.Ref
open Go
variable {P:Program} {E:Env} {X:aw} {s:State} {a:Act}
def fA(X Y:aw):Prop:=Y.w=X.w/\∀g j p n,X.ow g= .row (.r j p) n->Y.ow g= .row (.r j p) n
theorem fA.refl(X:aw):fA X X:=⟨rfl,λ_ _ _ _ h=>h⟩
theorem fA.trans{X Y Z:aw}(h:fA X Y)(k:fA Y Z):fA X Z:=⟨k.1.trans h.1,λg j p n e=>k.2 g j p n (h.2 g j p n e)⟩
theorem aC.Fb{X Y:aw}(h:fA X Y)(hx:Ext X Y)(hβ:Y.β=X.β){j:Nat}{sv:SV}{v:Value}(hn:sv.bW=false)(hr:aC X (.r j) sv v):aC Y (.r j) sv v:=by
 cases sv with
 |undef=>trivial
 |skip=>exact hr
 |cR=>exact hr
 |ey=>exact hr
 |over=>exact hr
 |aq t x own=>
  obtain⟨cs,h1,h2,h3⟩:=hr;refine⟨cs,h1.mono hx,h2,λp hp=> ?_⟩;obtain⟨e,t',xs,v,g0,g1,g2,g3⟩:=h3 p hp;refine⟨e,t',xs,v,g0,g1,g2,?_⟩;rcases g3 with ho|⟨g,cap,cur,k1,k2,k3,k4,k5,k6⟩
  ·exact .inl ho
  ·exact .inr ⟨g,cap,cur,k1,by rw[h.1];exact k2,k3,k4,k5,h.2 _ _ _ _ k6⟩
 |ptr id t p=>obtain⟨r,h1,h2⟩:=hr;exact⟨r,by rw[hβ];exact h1,h2⟩
 |view t x=>obtain⟨ad,cs,h1,h2,h3,h4⟩:=hr;exact⟨ad,cs,h1,h2,h3.mono hx,λi u hi=>hx.aB _ _ (h4 i u hi)⟩
 |cap f t x u y=>exact uf hx.aB hr
 |bF id a b k=>cases hn
theorem afu{X:aw}{i j:Nat}{q:List Nat->Place}:fA X (X.turn i j q):=⟨rfl,λg j p n h=>by simp only[aw.turn,h]⟩
theorem aeq{X:aw}{id:Nat}{p:List Nat}{q:List Nat->Place}:fA X (X.ig id p q):=⟨rfl,λg j p n h=>by simp only[aw.ig,h]⟩
theorem Kf(hE:ak P E):∀(rs:List ResultVar) (X:aw) (s s':State) (l:List SV) (j0:Nat),Rel X s a->ic E s rs=some (l,s')->
 ∃Y vs,Y.w=X.w/\Ext X Y/\fA X Y/\Y.β=X.β/\Rel Y s' a/\vs.length=l.length/\(∀(j:Nat) sv v,l[j]? =some sv->vs[j]? =some v->aC Y (.r (j0+j)) sv v)/\l.any SV.bW=false/\
  (rs.mapM (m:=Sem) λx=>match x with
    | .tmp t=>pure (a.tmps.getD t zaj)
    | .cell ad t=>do loadVar t (<-asAddr (a.tmps.getD ad zaj))).run P X.w= .ok vs X.w
 | [],X,s,s',l,j0,hr,h=>by simp only[ic,AI,Prod.mk.injEq] at h;obtain⟨rfl,rfl⟩:=h;exact⟨X,[],rfl,Ext.refl X,fA.refl X,rfl,hr,rfl,(λj sv v hl=>by simp at hl),rfl,by simp⟩
 | .tmp t::r,X,s,s',l,j0,hr,h=>by
   simp only[ic] at h;split at h
   case isTrue=>cases h
   rename_i eE;have eE:(one (s.slot t)).bW=false:=by simpa using eE
   split at h
   case h_2=>cases h
   rename_i l1 s1 h1;cases h;have key:∃Y,Y.w=X.w/\Ext X Y/\fA X Y/\Y.β=X.β/\Rel Y (s.close [(t,0)]) a/\aC Y (.r j0) (one (s.slot t)) (a.tmps.getD t zaj):=by
    have cN:=hr.aI (.tmp t);cases hs:one (s.slot t) with
    |aq ty x w=>have cN:aC X (.c t 0) (one (s.slot t)) (a.tmps.getD t zaj):=cN;rw[hs] at cN;obtain⟨cs,g1,g2,g3⟩:=cN;have hT:eI (s.close [(t,0)]) X (X.turn t 0 (.r j0)):=UX λp=>dg.close;exact⟨X.turn t 0 (.r j0),rfl,hT.ext,afu,rfl,(hr.close _).mod hT.mod,cs,g1.aj (λ_ _=>hT.aB.1),g2,g3.m7⟩
    |bF id c b n=>rw[hs] at eE;cases eE
    |_=>refine⟨X,rfl,Ext.refl X,fA.refl X,rfl,hr.close _,?_⟩;have cN:aC X (.c t 0) (one (s.slot t)) (a.tmps.getD t zaj):=cN;rw[hs] at cN;exact cN
   obtain⟨Y,hw,bc,bY,hβ,bD,aO⟩:=key;obtain⟨Z,vs,x8,cr,xc,hβ2,dj,hlen,nX,wU,aZ⟩:=Kf hE r Y _ s' l1 (j0+1) bD h1;refine⟨Z,a.tmps.getD t zaj::vs,x8.trans hw,bc.trans cr,bY.trans xc,hβ2.trans hβ,dj,by simp [hlen],λj sv v hl hv=> ?_,?_,?_⟩
   ·cases j with
    |zero=>simp only[zaB,AI] at hl hv;subst hl hv;exact aO.Fb xc cr hβ2 eE
    |succ j=>simp only[zax] at hl hv;rw[show j0+(j+1)=j0+1+j by omega];exact nX j sv v hl hv
   ·simp only[List.any_cons,eE,wU,Bool.or_self]
   ·rw[hw] at aZ;simp only[List.mapM_cons,BY,GP,fv,aZ]
 | .cell p T::r,X,s,s',l,j0,hr,h=>by
   simp only[ic] at h;split at h
   case h_2=>cases h
   rename_i id tt t ja hT;split at h
   case h_2=>cases h
   rename_i B hB;split at h
   case isFalse=>cases h
   rename_i heq;rw[nd] at heq;have eL:tt.bO=false:=by simpa using heq.2
   have hte:=Ty.aK heq.1;have hnB:B.t.bO=false:=hte▸hE.jF hT;split at h
   case h_2=>cases h
   rename_i l1 s1 h1;cases h;have hb:=sN hB;obtain⟨r0,hβ,wF⟩:=hr.boxes id B hb;obtain⟨cs,T',aF,aO,how,b7⟩:=wF.cells hnB;have eP:=hr.slot p;rw[ja] at eP;obtain⟨r1,hβ1,hvp⟩:aC X (.c p 0) (.ptr id tt []) (a.tmps.getD p zaj):=eP;obtain⟨hv,_⟩:=(sL eL).1 hvp;rw[hβ] at hβ1;cases hβ1;have dX:Rel X (s.aE (some (id,{B with own:=[]}))) a:=hr.m6 hb hβ ⟨how,dN.of hnB aF aO nm⟩ (.inl (zff hnB));have Ny:∀q,¬dg (s.aE (some (id,{B with own:=[]}))) (.b id ([]++q)):=by rintro q ⟨B2,df,hp⟩;rw[z9h hb] at df;cases df;cases hp
   have nh:=Tl (X:=X) (q:= .r j0) Ny;have RK:aC (X.ig id [] (.r j0)) (.r j0) (.aq B.t B.x B.own) (er B.t cs.toList):=by refine⟨cs.toList,aO.aj (λ_ _=>nh.aB.1),rfl,λq hq=> ?_⟩;obtain⟨e,t',xs,v,g0,g1,g2,g3⟩:=b7 q hq;exact⟨e,t',xs,v,g0,g1,g2,bB.sJ (p:=[]) g3⟩
   obtain⟨Z,vs,x8,cr,xc,hβ2,dj,hlen,nX,wU,aZ⟩:=Kf hE r (X.ig id [] (.r j0)) _ s' l1 (j0+1) (dX.mod nh.mod) h1;refine⟨Z,er B.t cs.toList::vs,x8,nh.ext.trans cr,aeq.trans xc,hβ2,dj,by simp [hlen],λj sv v hl hv=> ?_,?_,?_⟩
   ·cases j with
    |zero=>simp only[zaB,AI] at hl hv;subst hl hv;exact RK.Fb xc cr hβ2 rfl
    |succ j=>simp only[zax] at hl hv;rw[show j0+(j+1)=j0+1+j by omega];exact nX j sv v hl hv
   ·simpa [SV.bW] using wU
   ·have hl:=Fl (P:=P) hE (hte▸hT:E.ty T=some B.t) aO (ad:=⟨r0,0,none⟩) (w:=X.w) (λi v hi=>by rw[jv,Nat.zero_add];simp only[zaP,aF];simpa using hi)
    have hw3:(X.ig id [] (.r j0)).w=X.w:=rfl;rw[hw3] at aZ;have jS:a.tmps.getD p zaj= .pointer (some ⟨r0,0,none⟩):=by simpa [Ty.off] using hv
    have ha:(asAddr (.pointer (some ⟨r0,0,none⟩))).run P X.w= .ok ⟨r0,0,none⟩ X.w:=by simp [asAddr]
    simp only[List.mapM_cons,BY,GP,fv,aZ,jS,ha,hl]
def aw.zero(X:aw)(id:Nat):aw:=
 {X with ow:=λg=>match X.ow g with
  | .box bf=>if bf=id then .box 0 else .box bf
  | .row (.b bf p) n=>if bf=id then .row (.b 0 p) n else .row (.b bf p) n
  |w=>w}
theorem NV{id:Nat}{ad:Addr}{v:Value}(h:X.aB ad v):(X.zero id).aB ad v:=by
 refine⟨h.1,h.2.1,?_⟩;have:=h.2.2;simp only[aw.zero];cases hx:X.ow ad.block with
 |box i=>rw[hx] at this;exact this.elim
 |row pl n=>
  rw[hx] at this;cases pl with
  |b i p=>simp only;split<;>exact this
  |_=>exact this
 |_=>rw[hx] at this;exact this
theorem anc{id:Nat}:Ext X (X.zero id) where
 aB:=λ_ _=>NV
 size:=zag _
 os:=rfl
 tape:=rfl
 output:=rfl
 β0:=rfl
 still:=λg _ bY=>by
  refine⟨?_,rfl⟩;simp only[aw.zero];cases hx:X.ow g with
  |box i=>rw[hx] at bY;exact bY.elim
  |row pl n=>rw[hx] at bY;exact bY.elim
  |_=>rfl
theorem bK.zero{id r:Nat}{B:bH}(h:bK X id r B):bK (X.zero id) 0 r B:=by
 obtain⟨h3,h1⟩:=h;refine⟨by simp [aw.zero,h3],h1.move (λ_ _=>NV) rfl (λcs h4 p hp=> ?_) λ_ _ g o _ ho hw=>⟨ho,by simp [aw.zero,hw]⟩⟩;obtain⟨e,t',xs,v,g0,g1,g2,g3⟩:=h4 p hp;refine⟨e,t',xs,v,g0,g1,g2,?_⟩;rcases g3 with ho|⟨g,cap,cur,k1,k2,k3,k4,k5,k6⟩
 ·exact .inl ho
 ·exact .inr ⟨g,cap,cur,k1,k2,k3,k4,k5,by simp [aw.zero,k6]⟩
theorem aC.zero{id j r0:Nat}{sv:SV}{v:Value}(hp:∀bf t p,sv= .ptr bf t p->X.β bf=some r0)(hn:sv.bW=false)(h:aC X (.r j) sv v):aC {X.zero id with β:=λ_=>some r0} (.r j) (sv.gV 0) v:=by
 cases sv with
 |undef=>trivial
 |skip=>exact h
 |cR=>exact h
 |ey=>exact h
 |over=>exact h
 |aq t x own=>
  obtain⟨cs,h1,h2,h3⟩:=h;refine⟨cs,bm.aj (Y:={X.zero id with β:=λ_=>some r0}) (λad v hs=>(NV hs:(X.zero id).aB ad v)) h1,h2,λp hp=> ?_⟩;obtain⟨e,t',xs,v,g0,g1,g2,g3⟩:=h3 p hp;refine⟨e,t',xs,v,g0,g1,g2,?_⟩;rcases g3 with ho|⟨g,cap,cur,k1,k2,k3,k4,k5,k6⟩
  ·exact .inl ho
  ·exact .inr ⟨g,cap,cur,k1,k2,k3,k4,k5,by simp [aw.zero,k6]⟩
 |ptr bf t p=>obtain⟨r,h1,h2⟩:=h;have:=hp bf t p rfl;rw[h1] at this;cases this;exact⟨r0,rfl,h2⟩
 |view t x=>obtain⟨ad,cs,h1,h2,h3,h4⟩:=h;exact⟨ad,cs,h1,h2,bm.aj (Y:={X.zero id with β:=λ_=>some r0}) (λad v hs=>(NV hs:(X.zero id).aB ad v)) h3,λi u hi=>(NV (h4 i u hi):(X.zero id).aB _ _)⟩
 |cap f t x u y=>exact uf (Y:={X.zero id with β:=λ_=>some r0}) (λad v hs=>(NV hs:(X.zero id).aB ad v)) h
 |bF bf a b k=>cases hn
theorem aC.anyβ{j r0:Nat}{sv:SV}{v:Value}(hp:∀bf t p,sv≠ .ptr bf t p)(hn:sv.bW=false)(h:aC X (.r j) sv v):aC {X with β:=λ_=>some r0} (.r j) sv v:=by
 cases sv with
 |undef=>trivial
 |skip=>exact h
 |cR=>exact h
 |ey=>exact h
 |over=>exact h
 |aq t x own=>obtain⟨cs,h1,h2,h3⟩:=h;exact⟨cs,bm.aj (X:=X) (Y:={X with β:=λ_=>some r0}) (λad v (hs:X.aB ad v)=>(hs:({X with β:=λ_=>some r0}:aw).aB ad v)) h1,h2,h3⟩
 |ptr bf t p=>exact absurd rfl (hp bf t p)
 |view t x=>obtain⟨ad,cs,h1,h2,h3,h4⟩:=h;exact⟨ad,cs,h1,h2,bm.aj (X:=X) (Y:={X with β:=λ_=>some r0}) (λad v (hs:X.aB ad v)=>(hs:({X with β:=λ_=>some r0}:aw).aB ad v)) h3,h4⟩
 |cap f t x u y=>exact uf (X:=X) (Y:={X with β:=λ_=>some r0}) (λad v (hs:X.aB ad v)=>(hs:({X with β:=λ_=>some r0}:aw).aB ad v)) h
 |bF bf a b k=>cases hn
theorem zgi:∀{l:List SV} {id:Nat} {t:Ty} {p:List Nat},SV.ptr id t p∈l->id∈FM l
 |v::r,id,t,p,h=>by
  rcases If.1 h with e|h
  ·subst e;simp [FM]
  ·have:=zgi h;cases v<;>simp [FM,this]
theorem z196{l:List SV}{vs:List Value}(hlen:vs.length=l.length)(h:∀(j:Nat) sv v,l[j]? =some sv->vs[j]? =some v->aC X (.r j) sv v):cW X .r l (if h:vs.toArray.size=1 then vs.toArray[0] else .tuple vs.toArray):=by
 match l,vs,hlen with
 | [sv],[v],_=>exact h 0 sv v rfl rfl
 | [],[],_=>exact⟨#[],rfl,rfl,λj s u hs=>by simp at hs⟩
 |x::y::r,u::v::w,hlen=>refine⟨(u::v::w).toArray,by simp,by simpa using hlen,λj s z hs hz=>h j s z hs (by simpa using hz)⟩
theorem adA{Z:aw}{s':State}{b:Option bH}{l' r:List SV}{b':Option bH}{vs:List Value}(hX:Ext X Z)(dj:Rel Z s' a)(hlen:vs.length=l'.length)(jB:∀(j:Nat) sv v,l'[j]? =some sv->vs[j]? =some v->aC Z (.r j) sv v)
 (eE:l'.any SV.bW=false) (fc:O1 s' b l' (λr b=>some (r,b))=some (r,b')):∃Y',Y'.w=Z.w/\Ext X Y'/\CT X Y' b r b' (if h:vs.toArray.size=1 then vs.toArray[0] else .tuple vs.toArray):=by
 unfold O1 at fc;cases b with
 |some B=>
  cases hp:FM l' with
  |cons _ _=>rw[hp] at fc;cases fc
  |nil=>
   rw[hp] at fc;have oP:∀id t p,SV.ptr id t p∉l':=λid t p hm=>by have:=zgi hm;rw[hp] at this;cases this
   cases eS:s'.box 0 with
   |none=>simp only[eS] at fc;cases fc
   |some B'=>simp only[eS] at fc;cases fc;obtain⟨r0,h3,h4⟩:=dj.boxes 0 B' (sN eS);refine⟨Z,rfl,hX,r0,z196 hlen λj sv v h1 h2=>(jB j sv v h1 h2).anyβ (λid t p e=>oP id t p (e▸IH h1)) (by simpa using za9.1 eE sv (IH h1)),λB2 df=> ?_,λ_=>oP,eE⟩;cases df;exact⟨h4,λ_=>by rw[<-hX.β0];exact h3⟩
 |none=>
  cases hp:FM l' with
  |nil=>
   rw[hp] at fc;have oP:∀id t p,SV.ptr id t p∉l':=λid t p hm=>by have:=zgi hm;rw[hp] at this;cases this
   cases fc;exact⟨Z,rfl,hX,0,z196 hlen λj sv v h1 h2=>(jB j sv v h1 h2).anyβ (λid t p e=>oP id t p (e▸IH h1)) (by simpa using za9.1 eE sv (IH h1)),(λB2 df=>by cases df),λ_=>oP,eE⟩
  |cons id rest=>
   rw[hp] at fc;cases rest with
   |cons _ _=>cases fc
   |nil=>
    cases hB:s'.box id with
    |none=>simp only[hB] at fc;cases fc
    |some B=>
     simp only[hB] at fc;cases fc;obtain⟨r0,h3,h4⟩:=dj.boxes id B (sN hB);refine⟨Z.zero id,rfl,hX.trans anc,r0,?_,λB2 df=> ?_,λhh=> ?_,UJ eE⟩
     ·refine z196 (by simpa using hlen) λj sv v h1 h2=> ?_;rw[IN] at h1;obtain⟨s0,fF,rfl⟩:=nl.1 h1;refine(jB j s0 v fF h2).zero (λbf t p e=> ?_) (by simpa using za9.1 eE s0 (IH fF));have:=zgi (e▸IH fF);rw[hp] at this;simp only[zaM] at this;subst this;exact h3
     ·cases df;exact⟨h4.zero,λhh=>by cases hh⟩
     ·rcases hh with hh|hh<;>cases hh
theorem zc6:∀(ts:List Ty) (l:List SV),(aR ts l).length=l.length
 | [],l=>by simp [aR]
 |t::r,[]=>by simp [aR]
 |t::r,v::q=>by cases t<;>cases v<;>simp [aR,zc6 r q]
theorem Uz{X:aw}:∀(ts:List Ty) (l:List SV) (i:Nat) (sv:SV) (v:Value),(aR ts l)[i]? =some sv->(∀sv,l[i]? =some sv->∃pl,aC X pl sv v)->∀q,(∃A0,l[i]? =some A0/\(sv=A0\/sv=A0.shut\/A0= .cR))/\((∀A0,l[i]? =some A0->aC X q A0 v)->aC X q sv v)
 | [],l,i,sv,v,h,_,q=>by
   have h:l[i]? =some sv:=by simpa [aR] using h
   exact⟨⟨sv,h,.inl rfl⟩,λhh=>hh sv h⟩
 |t::r,[],i,sv,v,h,_,q=>by simp [aR] at h
 |t::r,x::y,i,sv,v,h,hx,q=>by
  cases i with
  |zero=>
   have key:(aR (t::r) (x::y))[0]? =some sv->(sv=x.shut)\/(x= .cR/\∃e u,sv= .aq (.sl e u) ([]:List (El u)) []):=by intro h;cases t<;>cases x<;>simp only[aR,zaB,AI] at h<;>first|exact .inl h.symm|exact .inr ⟨rfl,_,_,h.symm⟩
   rcases key h with rfl|⟨rfl,e,u,rfl⟩
   ·exact⟨⟨x,rfl,.inr (.inl rfl)⟩,λhh=>(hh x rfl).shut⟩
   ·refine⟨⟨_,rfl,.inr (.inr rfl)⟩,λhh=> ?_⟩;have:=hh _ rfl;exact⟨[.slice none 0 0],⟨none,0,rfl,zag _,λj x hj=>by simp at hj⟩,this,nm⟩
  |succ i=>
   have h':(aR r y)[i]? =some sv:=by cases t<;>cases x<;>simpa [aR] using h
   have:=Uz r y i sv v h' (λsv hs=>hx sv (by simpa using hs)) q;simpa using this
theorem aiH{ts:List Ty}{l:List SV}{id:Nat}{t:Ty}{p:List Nat}(h:SV.ptr id t p∈aR ts l):SV.ptr id t p∈l:=by
 induction ts generalizing l with
 |nil=>simpa [aR] using h
 |cons u r ih=>
  cases l with
  |nil=>simp [aR] at h
  |cons v q=>
   have key:SV.ptr id t p=v.shut\/SV.ptr id t p∈aR r q:=by cases u<;>cases v<;>simp [aR,SV.shut] at h⊢ <;>first|exact h|exact .inr h|skip
   rcases key with e|hm
   ·rw[zgj e.symm];simp
   ·exact Cs _ (ih hm)
theorem aiG{ts:List Ty}{l:List SV}{id j:Nat}{c d:Ty}(h:SV.bF id c d j∈aR ts l):SV.bF id c d j∈l:=by
 induction ts generalizing l with
 |nil=>simpa [aR] using h
 |cons u r ih=>
  cases l with
  |nil=>simp [aR] at h
  |cons v q=>
   have key:SV.bF id c d j=v.shut\/SV.bF id c d j∈aR r q:=by cases u<;>cases v<;>simp [aR,SV.shut] at h⊢ <;>first|exact h|exact .inr h|skip
   rcases key with e|hm
   ·have:=zwk v;rw[<-e] at this;cases this
   ·exact Cs _ (ih hm)
theorem apD(hE:ak P E)(hm:P.follows .mixedOrders=true){C C0:ai}(hC0:C0.Nat)(hf0:∀f,dh P C0 f){f:FuncId}{fn:Func}{code:Code}(iJ:P.funcs[f]? =some fn)(wS:(fn.name== "runtime.NumGoroutine")=false)(su:fn.body=some code)
 (hC:∀(l:List SV) (b:Option bH) (r:List SV) (b':Option bH),C (List SV×Option bH) f l b (λr b=>some (r,b))=some (r,b')->∃k,kq E (C0 (List SV×Option bH)) k fn code l b (λr b=>some (r,b))=some (r,b')):dh P C f:=by
 intro l b r b' h;refine⟨⟨fn,code,iJ,wS,su⟩,λX args iI=> ?_⟩;obtain⟨k,h⟩:=hC l b r b' h;unfold kq at h;cases hg:(E.sp.isSome&&b.isSome) with
 |true=>rw[hg] at h;cases h
 |false=>
 rw[hg,cond_false] at h;have hF:Fr E X:=λbR=>iI.rows (by
  cases hE2:E.sp with
  |none=>exact absurd hE2 bR
  |some z=>
   cases b with
   |none=>rfl
   |some B=>rw[hE2] at hg;cases hg)
 simp only at h;obtain⟨⟨e,s⟩,h1,h2⟩:=kE (yx hC0 code _ (λe s=>some (e,s)) (K:=λz=>match z.1 with
  | .exit _=>none
  |_=>match ic E z.2 fn.results.toList with
   |some (l,s')=>O1 s' b (ib E l) (λr b=>some (r,b))
   |none=>none) (λe s=>by cases e<;>rfl) _) h
 refine calls_of_wp iJ su ?_;have dd:=iI.size;refine L1 hE hm hC0 hf0 k code X X _ _ e s hF (Ext.refl X) (?_:Rel X _ _) h1 _ λY a' bc bD=> ?_
 ·have eE:=zc6 E.ps l;refine⟨by simp [dd,eE],by simp [eE],λi sl v hs hv=> ?_,λid B hB=> ?_,λi sl id t p hs hm=> ?_,rfl,λi sl id c d n hs hm=> ?_⟩
  ·by_cases hi:i<l.length
   ·rw[zap (by simpa [eE] using hi),IN] at hs;obtain⟨sv,kB,rfl⟩:=nl.1 hs;rw[Array.getElem?_append_left (by omega)] at hv;exact(Uz E.ps l i sv v kB (λsv h0=>⟨_,iI.rep i sv v h0 hv⟩) (.c i 0)).2 λA0 h0=>iI.rep i A0 v h0 hv
   ·rw[zaa (by simp [eE];omega),zbH] at hs;split at hs
    ·cases hs;trivial
    ·cases hs
  ·cases id with
   |zero=>simp only[zaB,AI] at hB;exact iI.box B hB
   |succ id=>simp only[zax,zbH] at hB;split at hB<;>cases hB
  ·by_cases hi:i<l.length
   ·rw[zap (by simpa [eE] using hi),IN] at hs;obtain⟨sv,kB,rfl⟩:=nl.1 hs;simp only[zaM] at hm;subst hm;obtain⟨rfl,hb⟩:=iI.ptr id t p (aiH (IH kB));cases b with
    |none=>cases hb
    |some B=>exact⟨B,rfl⟩
   ·rw[zaa (by simp [eE];omega),zbH] at hs;split at hs
    ·cases hs;simp at hm
    ·cases hs
  ·exfalso;by_cases hi:i<l.length
   ·rw[zap (by simpa [eE] using hi),IN] at hs;obtain⟨sv,kB,rfl⟩:=nl.1 hs;simp only[zaM] at hm;subst hm;exact Ce iI.pS (aiG (IH kB))
   ·rw[zaa (by simp [eE];omega),zbH] at hs;split at hs
    ·cases hs;simp at hm
    ·cases hs
 ·
  have aay:∃l s',ic E s fn.results.toList=some (l,s')/\O1 s' b (ib E l) (λr b=>some (r,b))=some (r,b')/\(e= .normal\/e= .ret):=by
   cases e with
   |exit id=>cases h2
   |normal=>
    simp only at h2;split at h2
    ·exact⟨_,_,by assumption,h2,.inl rfl⟩
    ·cases h2
   |ret=>
    simp only at h2;split at h2
    ·exact⟨_,_,by assumption,h2,.inr rfl⟩
    ·cases h2
  obtain⟨l',s',dX,fc,he⟩:=aay;obtain⟨Z,vs,hw,cr,bY,hβ,dj,hlen,nX,aar,aZ⟩:=Kf hE fn.results.toList Y s s' l' 0 bD dX;have EP:(results fn a'.tmps).run P Y.w= .ok (if h:vs.toArray.size=1 then vs.toArray[0] else .tuple vs.toArray) Y.w:=by unfold results;simp only[Array.mapM_eq_mapM_toList,BY,Sem.run_map,GP,fv];exact congrArg (λr:Result (List Value)=>(r.andThen λa w'=>Result.ok a.toArray w').andThen λa w'=>Result.ok (if h:a.size=1 then a[0] else Value.tuple a) w') aZ
  have hX:Ext X Z:=bc.trans cr;have jB:∀(j:Nat) sv v,l'[j]? =some sv->vs[j]? =some v->aC Z (.r j) sv v:=λj sv v h1 h2=>by
   have:=nX j sv v h1 h2
   rwa [Nat.zero_add] at this
  have Rr:vs.length=(ib E l').length:=by unfold ib;cases E.ro<;>simpa using hlen
  have GI:∀(j:Nat) sv v,(ib E l')[j]? =some sv->vs[j]? =some v->aC Z (.r j) sv v:=λj sv v h1 h2=>by
   unfold ib at h1;cases hro:E.ro with
   |false=>rw[hro] at h1;exact jB j sv v h1 h2
   |true=>rw[hro,cond_true,IN] at h1;obtain⟨s0,fF,rfl⟩:=nl.1 h1;exact aC.gh (jB j s0 v fF h2)
  have wU:(ib E l').any SV.bW=false:=by
   unfold ib;cases E.ro with
   |false=>exact aar
   |true=>exact zmf l'
  have fin:=adA (b:=b) hX dj Rr GI wU fc;obtain⟨Y',hw',hX',hL⟩:=fin;have hw':=hw'.trans hw;rcases he with rfl|rfl
  ·exact⟨bD.defers,_,EP,Y',hw',hX',hL⟩
  ·exact⟨bD.defers,_,EP,Y',hw',hX',hL⟩
end Go.Ref

namespace Go.Ref
open Go
variable {P:Program} {E:Env}
def Wf:(t:Ty)->El t->Prop
 | .bool,_=>True
 | .int k,n=>(Lit.int k n).wf=true
 | .str,s=>s.size<=maxLen
 | .sl _ t,xs=>aa xs<=maxLen/\∀x∈(xs:List (El t)),Wf t x
 | .arr n t,xs=>aa xs=n/\∀x∈(xs:List (El t)),Wf t x
 | .unit,_=>True
 | .pair a b,x=>Wf a x.1/\Wf b x.2
 | .aY _ _ _,_=>False
theorem NN(hE:ak P E){T:TypeId}{t:Ty}(ht:E.ty T=some t):P.cellsOf T=t.cells:=by obtain⟨i,h1,h2,_⟩:=(hE.ty T t ht).info;simp [Program.cellsOf,h1,h2]
def Ty.gX:Ty->Bool
 | .sl _ t=> !(xz t.cells 0)&&t.gX
 | .arr _ t=>t.gX
 | .pair a b=>a.gX&&b.gX
 |_=>true
def xH(w:World)(β:Nat->Option Nat):aw:=⟨w,λ_=> .all,β⟩
theorem aiJ{w:World}{β:Nat->Option Nat}{a:Addr}{v:Value}(h:w.cell? a=some v):(xH w β).aB a v:=⟨World.cell?_spot h,h,trivial⟩
theorem zt0{α:Type}{n:Nat}{p:Nat->α->Prop}(h:∀i,i<n->∃x,p i x):∃xs:List α,xs.length=n/\∀(i:Nat) x,xs[i]? =some x->p i x:=by
 induction n with
 |zero=>exact⟨[],rfl,λi x hi=>by simp at hi⟩
 |succ n ih=>
  obtain⟨xs,h1,h2⟩:=ih λi hi=>h i (by omega);obtain⟨y,hy⟩:=h n (by omega);refine⟨xs++ [y],by simp [h1],λi x hi=> ?_⟩;rw[List.getElem?_append] at hi;split at hi
  ·exact h2 i x hi
  ·rename_i ap;have wM:i-xs.length=0:=by have:=(AS.1 hi).1;simp at this;omega
   rw[wM] at hi;simp only[zaB,AI] at hi;subst hi;have:i=n:=by omega
   subst this;exact hy
section
variable {H:Type} {enc:TypeId×Value->H} {w:World} {base:Nat} {spare:Nat->Bool} {held:Bool} {β:Nat->Option Nat}
theorem apO(hE:ak P E):∀t:Ty,
 (∀(T:TypeId) (cC:Nat) (cs:List Value) (x:DataW H×List MemPlace),E.ty T=some t->t.gX=true->zdK enc P w base spare held cC T cs=some x->∃y:El t,bm (xH w β) t y cs/\Wf t y)/\
 (∀(fl:List Field) (off cC:Nat) (cs:List Value),j9 E fl t off->t.gX=true->off+t.cells<=cs.length->(∀f∈fl,∃x,zdK enc P w base spare held cC f.type ((cs.drop f.offset).take (P.cellsOf f.type))=some x)->
   ∃y:El t,bm (xH w β) t y ((cs.drop off).take t.cells)/\Wf t y):=by
 intro t;have mu:∀{t:Ty},t.dx=false->t≠ .unit->∀(fl:List Field) (off:Nat),¬j9 E fl t off:=by intro t h1 h2 fl off h;cases t<;>cases fl<;>simp_all [j9,Ty.dx]
 induction t with
 |aY k a b _ _=>exact⟨λT cC cs x hT jb h=>absurd (hE.jF hT) (by simp [Ty.bO]),λfl off cC cs hf=>absurd hf (mu rfl (by simp) fl off)⟩
 |bool=>
  refine⟨λT cC cs x hT jb h=> ?_,λfl off cC cs hf=>absurd hf (mu rfl (by simp) fl off)⟩;have hu:=(hE.ty T _ hT).dJ;cases cC with
  |zero=>simp [zdK] at h
  |succ m=>
   unfold zdK at h;rw[hu] at h;split at h<;>try(first|cases h;done|(simp_all;done))
   rename_i b _;exact⟨b,rfl,trivial⟩
 |int k=>
  refine⟨λT cC cs x hT jb h=> ?_,λfl off cC cs hf=>absurd hf (mu rfl (by simp) fl off)⟩;have hu:=(hE.ty T _ hT).dJ;cases cC with
  |zero=>simp [zdK] at h
  |succ m=>unfold zdK at h;rw[hu] at h;split at h<;>simp_all;rename_i k1 k2 n hk;subst hk;exact⟨n,rfl,h.1.2⟩
 |str=>
  refine⟨λT cC cs x hT jb h=> ?_,λfl off cC cs hf=>absurd hf (mu rfl (by simp) fl off)⟩;have hu:=(hE.ty T _ hT).dJ;cases cC with
  |zero=>simp [zdK] at h
  |succ m=>unfold zdK at h;rw[hu] at h;split at h<;>simp_all;rename_i s;exact⟨s,rfl,h.1⟩
 |sl e t ih=>
  refine⟨λT cC cs x hT jb h=> ?_,λfl off cC cs hf=>absurd hf (mu rfl (by simp) fl off)⟩;obtain⟨hu,he⟩:=(hE.ty T _ hT).dJ;have hc:=NN hE he;rcases Go.Deep.open_slice hu h with⟨rfl,_⟩|⟨a,len,cap,m,n,D,Pl,rfl,hb,hl,hm,GD,_,fD⟩
  ·exact⟨[],⟨none,0,rfl,zag _,λj x hj=>by simp at hj⟩,by simp [maxLen],λx hx=>by cases hx⟩
  ·have hlm:len<=m:=by rw[GD];split<;>omega
   have hk:0<t.cells/\t.gX=true:=by
    simp only[Ty.gX,nd,zbT] at jb;refine⟨?_,jb.2⟩;rcases Nat.eq_zero_or_pos t.cells with h0|h0
    ·rw[h0] at jb;simp at jb
    ·exact h0
   obtain⟨ys,h1,h2⟩:=zt0 (n:=len) (p:=λi (y:El t)=>∃fa,w.cells? base (a.add (i*t.cells)) t.cells=some fa/\bm (xH w β) t y fa/\Wf t y) (λi hi=>by obtain⟨fa,g1,g2⟩:=fD i (by omega);rw[hc] at g1;obtain⟨y,k1,k2⟩:=ih.1 e n fa _ he hk.2 g2;exact⟨y,fa,g1,k1,k2⟩)
   refine⟨ys,bm.AZ h1 hl (λj y hj=> ?_),by show ys.length<=_;omega,λy hy=> ?_⟩
   ·obtain⟨fa,g1,g2,g3⟩:=h2 j y hj;obtain⟨_,hlen,eb⟩:=World.cells?_some g1;have hj0:=(AS.1 hj).1;obtain⟨c0,e1,_⟩:=h2 0 _ (ks (by omega));obtain⟨_,aru,Gk⟩:=World.cells?_some e1;have ER:a.spot=none:=by have:=Gk 0 (by omega);rw[ks (by omega)] at this;have h3:=World.cell?_spot this;simpa [Addr.add] using h3
    refine⟨a,fa,rfl,ER,g2,λi v hi=>aiJ ?_⟩;have hil:=(AS.1 hi).1;have:=eb i (by omega);rw[zey a ER,hi] at this;exact this
   ·obtain⟨i,hi⟩:=zbi.1 hy;obtain⟨fa,_,_,g3⟩:=h2 i y hi;exact g3
 |arr n t ih=>
  refine⟨λT cC cs x hT jb h=> ?_,λfl off cC cs hf=>absurd hf (mu rfl (by simp) fl off)⟩;obtain⟨e,hu,he,_⟩:=(hE.ty T _ hT).dJ;have hc:=NN hE he;have Ra:=NN hE hT;obtain⟨xs,m,rfl,_,hl,EU,fD⟩:=DataW.trod_array hu h;obtain⟨ys,h1,h2⟩:=zt0 (n:=n) (p:=λi (y:El t)=>bm (xH w β) t y ((cs.drop (i*t.cells)).take t.cells)/\Wf t y) (λi hi=>by have g:=fD i hi;rw[hc,ks (by omega)] at g;exact ih.1 e m _ _ he jb g)
  refine⟨ys,⟨h1,by rw[hl,Ra];rfl,λj y hj=>(h2 j y hj).1⟩,h1,λy hy=> ?_⟩;obtain⟨i,hi⟩:=zbi.1 hy;exact(h2 i y hi).2
 |unit=>refine⟨λT cC cs x hT jb h=> ?_,λfl off cC cs hf jb hle c8=>⟨(),by simp [Ty.cells,bm],trivial⟩⟩;obtain⟨fs,hu,dv,_⟩:=(hE.ty T _ hT).dJ;have Ra:=NN hE hT;obtain⟨xs,m,rfl,_,hl,_⟩:=DataW.trod_struct hu h;rw[Ra] at hl;refine⟨(),?_,trivial⟩;exact List.eq_nil_of_length_eq_zero hl
 |pair ta tb mZ m3=>
  have step:∀(fl:List Field) (off cC:Nat) (cs:List Value),j9 E fl (.pair ta tb) off->(Ty.pair ta tb).gX=true->off+(Ty.pair ta tb).cells<=cs.length->(∀f∈fl,∃x,zdK enc P w base spare held cC f.type ((cs.drop f.offset).take (P.cellsOf f.type))=some x)->
   ∃y:El (.pair ta tb),bm (xH w β) (.pair ta tb) y ((cs.drop off).take (Ty.pair ta tb).cells)/\Wf (.pair ta tb) y:=by
   intro fl off cC cs hf jb hle c8;cases fl with
   |nil=>simp [j9] at hf
   |cons f fl=>obtain⟨f1,f2,f3,f4⟩:=hf;simp only[Ty.gX,nd] at jb;simp only[Ty.cells] at hle;obtain⟨x,hx⟩:=c8 f (by simp);rw[NN hE f2,f1] at hx;obtain⟨y1,r1,w1⟩:=mZ.1 f.type cC _ x f2 jb.1 hx;obtain⟨y2,r2,w2⟩:=m3.2 fl (off+ta.cells) cC cs f4 jb.2 (by omega) (λg hg=>c8 g (Cs _ hg));refine⟨(y1,y2),⟨_,_,?_,r1,r2⟩,w1,w2⟩;simp only[Ty.cells];rw[<-List.drop_drop];exact List.take_add
  refine⟨λT cC cs x hT jb h=> ?_,step⟩;obtain⟨fs,hu,dv,_⟩:=(hE.ty T _ hT).dJ;have Ra:=NN hE hT;obtain⟨xs,m,rfl,_,hl,EU,fD⟩:=DataW.trod_struct hu h;rw[Ra] at hl;obtain⟨y,r,wf⟩:=step fs.toList 0 m cs dv jb (by omega) (λf hf=>by
   obtain⟨i,hi⟩:=zbi.1 hf;have Ap:fs[i]? =some f:=by simpa using hi
   have:=fD i f Ap;have ap:=(AS.1 hi).1;rw[ks (by simp at ap;omega)] at this;exact⟨_,this⟩)
  refine⟨y,?_,wf⟩;rw[List.drop_zero,<-hl,List.take_length] at r;exact r
end
end Go.Ref

namespace Go.Ref
open Go
variable {P:Program} {E:Env}
def LJ:Value->Value->Bool
 | .bool a,.bool b=>a==b
 | .int k a,.int j b=>decide (k=j)&&decide (a=b)
 | .string a,.string b=>xz a.size 0&&xz b.size 0
 | .slice none 0 0,.slice none 0 0=>true
 |_,_=>false
theorem zt5{a:ByteArray}(h:a.size=0):a=⟨#[]⟩:=by
 cases a with
 |mk d=>have:d.size=0:=h;have:=Array.eq_empty_of_size_eq_zero this;rw[this]
theorem ahY{a b:Value}(h:LJ a b=true):a=b:=by
 unfold LJ at h;split at h
 ·simp at h;rw[h]
 ·simp at h;rw[h.1,h.2]
 ·simp only[nd] at h;rw[zt5 (DD h.1),zt5 (DD h.2)]
 ·rfl
 ·cases h
def Ot:List Value->List Value->Bool
 | [],[]=>true
 |a::r,b::q=>LJ a b&&Ot r q
 |_,_=>false
theorem z9c:∀{a b:List Value},Ot a b=true->a=b
 | [],[],_=>rfl
 |a::r,b::q,h=>by simp only[Ot,nd] at h;rw[ahY h.1,z9c h.2]
def LW(t:Ty)(v:Value):Bool:=
 match v with
 | .agg cs=>t.agg&&Ot cs.toList (zr t)
 |v=> !t.agg&&Ot [v] (zr t)
theorem ajs{t:Ty}{v:Value}(h:LW t v=true):v=er t (zr t):=by
 unfold LW at h;split at h
 ·simp only[nd] at h;rw[kz h.1,<-z9c h.2]
 ·simp only[nd,zbT] at h;rw[<-z9c h.2,zfe h.1]
def tF(E:Env):List Field->Ty->Nat->Bool
 | [],.unit,_=>true
 |f::r,.pair a b,off=>xz f.offset off&&((match E.ty f.type with
  |some t=>t.cB a
  |none=>false)&&(!(f.name== "_")&&tF E r b (off+a.cells)))
 |_,_,_=>false
theorem zw7:∀{fl:List Field} {t:Ty} {off:Nat},tF E fl t off=true->j9 E fl t off
 | [],t,off,h=>by cases t<;>simp_all [tF,j9]
 |f::r,t,off,h=>by
  cases t<;>simp only[tF,nd] at h<;>try(cases h;done)
  obtain⟨h1,h2,h3,h4⟩:=h;refine⟨DD h1,?_,?_,zw7 h4⟩
  ·cases hf:E.ty f.type with
   |none=>rw[hf] at h2;cases h2
   |some u=>rw[hf] at h2;rw[Ty.aK h2]
  ·simpa using h3
def xu(E:Env)(T:TypeId)(t:Ty):Bool:=
 match E.ty T with
 |some u=>u.cB t
 |none=>false
theorem Kj{T:TypeId}{t:Ty}(h:xu E T t=true):E.ty T=some t:=by
 unfold xu at h;split at h
 ·rename_i u hu;rw[hu,Ty.aK h]
 ·cases h
def G9(P:Program)(E:Env)(T:TypeId)(t:Ty):Bool:=
 match P.underlying T,t with
 |some .bool,.bool=>true
 |some (.int k),.int j=>decide (k=j)
 |some .string,.str=>true
 |some (.slice e),.sl e' u=>xz e e'&&xu E e u
 |some (.array n e),.arr m u=>xz n m&&(xu E e u&& !P.eqGuardType P.depth T)
 |some (.struct fs),.unit=>tF E fs.toList .unit 0&&(!P.stoodInHeld T&& !P.eqGuardType P.depth T)
 |some (.struct fs),.pair a b=>tF E fs.toList (.pair a b) 0&&(!P.stoodInHeld T&& !P.eqGuardType P.depth T)
 |_,_=>false
theorem am6{T:TypeId}{t:Ty}(h:G9 P E T t=true):YB P E T t:=by
 unfold G9 at h;split at h
 ·assumption
 ·rename_i k j hu;rw[<-of_decide_eq_true h];exact hu
 ·assumption
 ·rename_i e e' u hu;simp only[nd] at h;have:=DD h.1;subst this;exact⟨hu,Kj h.2⟩
 ·rename_i n e m u hu;simp only[nd] at h;have:=DD h.1;subst this;exact⟨e,hu,Kj h.2.1,by simpa using h.2.2⟩
 ·rename_i fs hu;simp only[nd,zbT] at h;exact⟨fs,hu,zw7 h.1,h.2.1,h.2.2⟩
 ·rename_i fs a b hu;simp only[nd,zbT] at h;exact⟨fs,hu,zw7 h.1,h.2.1,h.2.2⟩
 ·cases h
def EW(P:Program)(E:Env)(T:TypeId)(t:Ty):Bool:=
 match P.info? T with
 |some i=>xz i.size t.cells&&(xz i.bytes (E.bytes T)&&match i.zero with
  |some v=>LW t v
  |none=>false)
 |none=>false
def Gc(P:Program)(E:Env)(T:TypeId):Bool:=
 match E.ty T with
 |some t=>EW P E T t&&G9 P E T t
 |none=>true
theorem amq{T:TypeId}{t:Ty}(h:Gc P E T=true)(ht:E.ty T=some t):mQ P E T t:=by
 unfold Gc at h;rw[ht] at h;simp only[nd] at h;refine⟨?_,am6 h.2⟩;have h1:=h.1;unfold EW at h1;split at h1
 ·rename_i i hi;simp only[nd] at h1;obtain⟨g1,g2,g3⟩:=h1;split at g3
  ·rename_i v hv;exact⟨i,hi,DD g1,DD g2,by rw[hv,ajs g3]⟩
  ·cases g3
 ·cases h1
def ptB(P:Program)(T:TypeId):Bool:=
 match P.underlying T,P.info? T with
 |some (.pointer _),some i=>xz i.size 1
 |_,_=>false
structure ti where
 NI:List (Option Ty)
 bts:List Nat
 E6:List Bool
 mps:List (TypeId×TypeId×TypeId):=[]
def AM:List (TypeId×TypeId×TypeId)->TypeId->Option (TypeId×TypeId)
 | [],_=>none
 |q::r,T=>bif xz q.1 T then some q.2 else AM r T
def mpB(P:Program)(q:TypeId×TypeId×TypeId):Bool:=
 match P.underlying q.1 with
 |some (.map k e)=>xz k q.2.1&&xz e q.2.2
 |_=>false
theorem XB{P:Program}:∀{l:List (TypeId×TypeId×TypeId)},l.all (mpB P)=true->∀{T k e:TypeId},AM l T=some (k,e)->P.underlying T=some (.map k e)
 |q::r,hl,T,k,e,h=>by
  simp only[List.all_cons,nd] at hl;unfold AM at h;cases hq:xz q.1 T with
  |false=>rw[hq] at h;exact XB hl.2 h
  |true=>
   rw[hq] at h;have:=DD hq;subst this;have h1:=hl.1;unfold mpB at h1;split at h1
   ·rename_i k' e' hu;simp only[nd] at h1;have a1:=DD h1.1;have a2:=DD h1.2;rw[hu,a1,a2];have h:some q.2=some (k,e):=h;injection h with h
    rw[h]
   ·cases h1
def ti.env(t:ti)(dy jT:Nat->List Nat)(outs:List Nat)(ps:List Ty):Env:=⟨λT=>t.NI.getD T none,λT=>t.bts.getD T 0,λT=>t.E6.getD T false,dy,jT,outs,ps,AM t.mps,λ_=>none,λ_=>none,λ_=>[],[],false,[],λ_=>[],λ_=>none,λ_=>none,λ_=>false,none,none⟩
def ti.Aj(t:ti):Env:=t.env (λ_=>[]) (λ_=>[]) [] []
def ti.ok(P:Program)(t:ti):Bool:=(List.range t.NI.length).all (Gc P t.Aj)&&((List.range t.E6.length).all (λT=> !t.E6.getD T false||ptB P T)&&t.mps.all (mpB P))
theorem uK{E':Env}(h1:E.ty=E'.ty)(h2:E.bytes=E'.bytes){T:TypeId}{t:Ty}(h:mQ P E T t):mQ P E' T t:=by
 have dv:∀(fl:List Field) (t:Ty) (off:Nat),j9 E fl t off->j9 E' fl t off:=by
  intro fl
  induction fl with
  |nil=>intro t off h;cases t<;>simp_all [j9]
  |cons f r ih=>
   intro t off h;cases t<;>simp only[j9] at h⊢ <;>try exact h
   exact⟨h.1,by rw[<-h1];exact h.2.1,h.2.2.1,ih _ _ h.2.2.2⟩
 refine⟨by rw[<-h2];exact h.info,?_⟩;have hu:=h.dJ;cases t with
 |bool=>exact hu
 |int k=>exact hu
 |str=>exact hu
 |sl e u=>exact⟨hu.1,by rw[<-h1];exact hu.2⟩
 |arr n u=>obtain⟨e,g1,g2⟩:=hu;exact⟨e,g1,by rw[<-h1];exact g2⟩
 |unit=>obtain⟨fs,g1,g2,g3⟩:=hu;exact⟨fs,g1,dv _ _ _ g2,g3⟩
 |pair a b=>obtain⟨fs,g1,g2,g3⟩:=hu;exact⟨fs,g1,dv _ _ _ g2,g3⟩
 |aY k a b=>exact hu.elim
theorem ak.join(h:ak P E)(j:Nat->Option (List Nat)):ak P {E with join:=j}:=
 ⟨λT u hT=>uK (E:=E) (E':={E with join:=j}) rfl rfl (h.ty T u hT),h.pt,h.p1,h.mp,h.bl,h.gr,h.gz,h.g3,h.ga⟩
theorem ak.fz(h:ak P E)(j:Nat->Option (Nat×TypeId)):ak P {E with fz:=j}:=
 ⟨λT u hT=>uK (E:=E) (E':={E with fz:=j}) rfl rfl (h.ty T u hT),h.pt,h.p1,h.mp,h.bl,h.gr,h.gz,h.g3,h.ga⟩
theorem ak.dr(h:ak P E)(j:Nat->List Nat):ak P {E with dr:=j}:=
 ⟨λT u hT=>uK (E:=E) (E':={E with dr:=j}) rfl rfl (h.ty T u hT),h.pt,h.p1,h.mp,h.bl,h.gr,h.gz,h.g3,h.ga⟩
theorem ak.sh(h:ak P E)(j:List Nat):ak P {E with sh:=j}:=
 ⟨λT u hT=>uK (E:=E) (E':={E with sh:=j}) rfl rfl (h.ty T u hT),h.pt,h.p1,h.mp,h.bl,h.gr,h.gz,h.g3,h.ga⟩
theorem ak.mv(h:ak P E)(j:List Nat):ak P {E with mv:=j}:=
 ⟨λT u hT=>uK (E:=E) (E':={E with mv:=j}) rfl rfl (h.ty T u hT),h.pt,h.p1,h.mp,h.bl,h.gr,h.gz,h.g3,h.ga⟩
theorem ak.fr(h:ak P E)(j:Nat->List Nat):ak P {E with fr:=j}:=
 ⟨λT u hT=>uK (E:=E) (E':={E with fr:=j}) rfl rfl (h.ty T u hT),h.pt,h.p1,h.mp,h.bl,h.gr,h.gz,h.g3,h.ga⟩
def blB(P:Program)(T:TypeId):Bool:=
 match P.info? T with
 |some i=>match i.zero with
  |some (.agg a)=>match a.toList with
   | [.pointer none,.slice none 0 0]=>true
   |_=>false
  |_=>false
 |none=>false
theorem ak.kl(h:ak P E)(T e:TypeId)(hT:blB P T=true):ak P {E with bl:=λt=>bif xz t T then some e else none}:=
 ⟨λT' u hT=>uK (E:=E) (E':={E with bl:=λt=>bif xz t T then some e else none}) rfl rfl (h.ty T' u hT),h.pt,h.p1,h.mp,λT' e' he=>by
   have he:(bif xz T' T then some e else none)=some e':=he;cases hb:xz T' T with
   |false=>rw[hb] at he;cases he
   |true=>
    have:=DD hb;subst this;unfold blB at hT;split at hT
    case h_2=>cases hT
    rename_i i hi;split at hT
    case h_2=>cases hT
    rename_i a ha;split at hT
    case h_2=>cases hT
    rename_i hl;exact⟨i,hi,by rw[ha];congr 1;congr 1;apply Array.ext';rw[hl]⟩,h.gr,h.gz,h.g3,h.ga⟩
def grB(P:Program)(T:TypeId)(a:Ty):Bool:=
 match P.underlying T with
 |some (.struct fs)=>[0,1,2].all λj=>match fs[j]? with
  |some f=>xz f.offset (nN a [j])&&match P.info? f.type with
   |some i=> !(xz i.size 0)
   |none=>false
  |none=>false
 |_=>false
def gaB(P:Program)(T:TypeId):Bool:=
 match P.underlying T with
 |some (.array 2 e)=>match P.info? e with
  |some i=>xz i.size 1
  |none=>false
 |_=>false
theorem arj{T:TypeId}{a:Ty}(h:grB P T a=true):∃fs,P.underlying T=some (.struct fs)/\∀j,j<=2->∃f i,fs[j]? =some f/\f.offset=nN a [j]/\P.info? f.type=some i/\i.size≠0:=by
 unfold grB at h;split at h
 case h_2=>cases h
 rename_i fs hu;refine⟨fs,hu,λj hj=> ?_⟩;have:=OF.1 h j (by match j,hj with|0,_=>simp|1,_=>simp|2,_=>simp);split at this
 case h_2=>cases this
 rename_i f hf;rw[nd] at this;obtain⟨h1,h2⟩:=this;split at h2
 case h_2=>cases h2
 rename_i i hi;exact⟨f,i,hf,DD h1,hi,λe=>by rw[e] at h2;simp at h2⟩
theorem ari{T:TypeId}(h:gaB P T=true):∃e i,P.underlying T=some (.array 2 e)/\P.info? e=some i/\i.size=1:=by
 unfold gaB at h;split at h
 case h_2=>cases h
 rename_i e hu;split at h
 case h_2=>cases h
 rename_i i hi;exact⟨e,i,hu,hi,DD h⟩
def gzB(P:Program)(T:TypeId)(a:Ty):Bool:=
 match P.info? T with
 |some i=>match i.zero with
  |some (.agg cs)=>Ot (cs.toList.take a.cells) (zr a)&&(match cs.toList.drop a.cells with
   | [.pointer none,.pointer none,.int .i64 n]=>decide (n=0)
   |_=>false)
  |_=>false
 |none=>false
theorem ark{T:TypeId}{a:Ty}(h:gzB P T a=true):∃i,P.info? T=some i/\i.zero=some (.agg (zr a++ [Value.pointer none,Value.pointer none,Value.int .i64 0]).toArray):=by
 unfold gzB at h;split at h
 case h_2=>cases h
 rename_i i hi;split at h
 case h_2=>cases h
 rename_i cs eU;rw[nd] at h;obtain⟨h1,h2⟩:=h;split at h2
 case h_2=>cases h2
 rename_i n hd;have:=of_decide_eq_true h2;subst this;refine⟨i,hi,?_⟩;rw[eU,<-z9c h1,<-hd,List.take_append_drop]
def g3B(P:Program)(E:Env)(T:TypeId)(a:Ty):Bool:=
 match P.underlying T with
 |some (.struct fs)=>(match fs.toList with
  |f::_=>xz f.offset 0&&xu E f.type a
  | []=>false)&&fs.toList.all λf=>(P.info? f.type).isSome
 |_=>false
theorem arh{T:TypeId}{a:Ty}(h:g3B P E T a=true):∃fs f,P.underlying T=some (.struct fs)/\fs[0]? =some f/\f.offset=0/\E.ty f.type=some a/\∀f∈fs.toList,∃i,P.info? f.type=some i:=by
 unfold g3B at h;split at h
 case h_2=>cases h
 rename_i fs hu;rw[nd] at h;obtain⟨h1,h2⟩:=h;split at h1
 case h_2=>cases h1
 rename_i f r hl;rw[nd] at h1;refine⟨fs,f,hu,by rw[<-Array.getElem?_toList,hl];rfl,DD h1.1,Kj h1.2,λg hg=> ?_⟩;exact Option.isSome_iff_exists.1 (OF.1 h2 g hg)
theorem ak.cX(h:ak P E)(T A:TypeId)(a b:Ty)(hT:grB P T a=true)(hZ:gzB P T a=true)(h3:g3B P E T a=true)(hA:gaB P A=true):ak P {E with gr:=λt=>bif xz t T then some (a,b) else none,ga:=λt=>xz t A}:=
 ⟨λT' u xY=>uK (E:=E) (E':={E with gr:=λt=>bif xz t T then some (a,b) else none,ga:=λt=>xz t A}) rfl rfl (h.ty T' u xY),h.pt,h.p1,h.mp,h.bl,λT' a' b' he=>by
   have he:(bif xz T' T then some (a,b) else none)=some (a',b'):=he;cases hb:xz T' T with
   |false=>rw[hb] at he;cases he
   |true=>have:=DD hb;subst this;rw[hb] at he;cases he;exact arj hT,λT' a' b' he=>by
   have he:(bif xz T' T then some (a,b) else none)=some (a',b'):=he;cases hb:xz T' T with
   |false=>rw[hb] at he;cases he
   |true=>have:=DD hb;subst this;rw[hb] at he;cases he;exact ark hZ,λT' a' b' he=>by
   have he:(bif xz T' T then some (a,b) else none)=some (a',b'):=he;cases hb:xz T' T with
   |false=>rw[hb] at he;cases he
   |true=>have:=DD hb;subst this;rw[hb] at he;cases he;exact arh (E:=E) h3,λT' he=>by
   have:=DD (show xz T' A=true from he);subst this;exact ari hA⟩
theorem ak.sg(h:ak P E)(j:Option (Nat×Nat×Nat)):ak P {E with sg:=j}:=
 ⟨λT u hT=>uK (E:=E) (E':={E with sg:=j}) rfl rfl (h.ty T u hT),h.pt,h.p1,h.mp,h.bl,h.gr,h.gz,h.g3,h.ga⟩
theorem ak.sp(h:ak P E)(j:Option (Nat×Nat×Nat×Nat)):ak P {E with sp:=j}:=
 ⟨λT u hT=>uK (E:=E) (E':={E with sp:=j}) rfl rfl (h.ty T u hT),h.pt,h.p1,h.mp,h.bl,h.gr,h.gz,h.g3,h.ga⟩
theorem ak.ro(h:ak P E)(j:Bool):ak P {E with ro:=j}:=
 ⟨λT u hT=>uK (E:=E) (E':={E with ro:=j}) rfl rfl (h.ty T u hT),h.pt,h.p1,h.mp,h.bl,h.gr,h.gz,h.g3,h.ga⟩
theorem ti.pH{t:ti}(h:t.ok P=true)(dy jT:Nat->List Nat)(outs:List Nat)(ps:List Ty):ak P (t.env dy jT outs ps):=by
 unfold ti.ok at h;simp only[nd] at h;have jQ:∀T,t.E6.getD T false=true->ptB P T=true:=λT xY=>by
  have ap:T<t.E6.length:=by
   rcases Nat.lt_or_ge T t.E6.length with h1|h1
   ·exact h1
   ·rw[be,IT h1] at xY;cases xY
  have:=OF.1 h.2.1 T (List.mem_range.2 ap);rw[xY] at this;simpa using this
 refine⟨λT u hT=> ?_,λT hT=> ?_,λT hT=> ?_,λT k e hT=>XB h.2.2 hT,λT e hT=>(by cases hT),λT a b hT=>(by cases hT),λT a b hT=>(by cases hT),λT a b hT=>(by cases hT),λT hT=>by cases hT⟩
 ·refine uK (E:=t.Aj) (E':=t.env dy jT outs ps) rfl rfl (amq ?_ hT);refine OF.1 h.1 T (List.mem_range.2 ?_);have xY:t.NI.getD T none=some u:=hT;rcases Nat.lt_or_ge T t.NI.length with h1|h1
  ·exact h1
  ·rw[be,IT h1] at xY;cases xY
 ·have:=jQ T hT;unfold ptB at this;split at this
  ·rename_i e i he _;exact⟨e,he⟩
  ·cases this
 ·have:=jQ T hT;unfold ptB at this;split at this
  ·rename_i e i _ hi;exact⟨i,hi,DD this⟩
  ·cases this
end Go.Ref

namespace Go.Ref
open Go
variable {P:Program} {E:Env}
abbrev Pure:=(R:Type)->List SV->Option bH->(List SV->Option bH->Option R)->Option R
def Pure.Nat(g:Pure):Prop:=∀(R S:Type) l b (F:List SV->Option bH->Option R) (G:List SV->Option bH->Option S) (K:S->Option R),(∀r b,F r b=(G r b).bind K)->g R l b F=(g S l b G).bind K
def ai.none:ai:=λ_ _ _ _ _=> .none
def ai.add(C:ai)(n:FuncId)(ps:List Ty)(g:Pure):ai:=λR f l b K=>bif xz f n then g R (aR ps l) b K else C R f l b K
theorem z226:ai.none.Nat:=λ_ _ _ _ _ _ _ _ _=>rfl
theorem aiF(f:FuncId):dh P ai.none f:=λ_ _ _ _ h=>by cases h
theorem zsf{C:ai}{n:FuncId}{ps:List Ty}{g:Pure}(hC:C.Nat)(hg:g.Nat):(C.add n ps g).Nat:=λR S f l b F G K h=>by
 unfold ai.add;cases xz f n with
 |false=>exact hC R S f l b F G K h
 |true=>exact hg R S _ b F G K h
theorem al2(hE:ak P E)(hm:P.follows .mixedOrders=true){C:ai}(hC:C.Nat)(h0:∀f,dh P C f){n:FuncId}{ps:List Ty}{g:Pure}{fn:Func}{code:Code}(iJ:P.funcs[n]? =some fn)(wS:(fn.name== "runtime.NumGoroutine")=false)(su:fn.body=some code)
 (h:∀(l:List SV) (b:Option bH) (r:List SV) (b':Option bH),g (List SV×Option bH) (aR ps l) b (λr b=>some (r,b))=some (r,b')->∃k,kq E (C (List SV×Option bH)) k fn code l b (λr b=>some (r,b))=some (r,b')):∀f,dh P (C.add n ps g) f:=by
 intro f;by_cases e:f=n
 ·subst e;refine apD hE hm hC h0 iJ wS su λl b r b' hc=>h l b r b' ?_;unfold ai.add at hc;have:xz f f=true:=by simp
  rw[this] at hc;exact hc
 ·intro l b r b' hc;unfold ai.add at hc;have:xz f n=false:=by
   cases hh:xz f n with
   |false=>rfl
   |true=>exact absurd (DD hh) e
  rw[this] at hc;exact h0 f l b r b' hc
def sub:List Nat->Code->Code
 | [],c=>c
 |0::p,.seq a _=>sub p a
 |_::p,.seq _ b=>sub p b
 |0::p,.cond _ a _=>sub p a
 |_::p,.cond _ _ b=>sub p b
 |_::p,.block _ b=>sub p b
 |_::p,.loop b=>sub p b
 |_,c=>c
section
variable {R:Type}
def zk(id:Nat)(K:Ex->State->Option R):Ex->State->Option R:=λe s=>match e with
 | .exit j=>bif xz j id then K .normal s else K (.exit j) s
 |e=>K e s
def aaK(E:Env)(C:FuncId->cc R)(k:Nat)(b:Code)(K:Ex->State->Option R):Ex->State->Option R:=λe s=>match e with
 | .normal=>n9 E k (pY b) s λs=>ev E C k b s K
 |e=>K e s
def aaJ(E:Env)(rs:List ResultVar)(bx:Option bH)(K:List SV->Option bH->Option R):Ex->State->Option R:=λe s=>match e with
 | .exit _=>none
 |_=>match ic E s rs with
  |some (l,s')=>O1 s' bx (ib E l) K
  |none=>none
end
section
variable {R:Type}
def gF(l:List SV)(K:Option R):Option R:=
 match l with
 | []=>K
 |_=>none
def gG(t:Ty)(l:List SV)(K:El t->Option R):Option R:=
 match l with
 | [a]=>a.el t K
 |_=>none
def fW(t u:Ty)(l:List SV)(K:El t->El u->Option R):Option R:=
 match l with
 | [a,b]=>a.el t λx=>b.el u λy=>K x y
 |_=>none
def iR(t u v:Ty)(l:List SV)(K:El t->El u->El v->Option R):Option R:=
 match l with
 | [a,b,c]=>a.el t λx=>b.el u λy=>c.el v λz=>K x y z
 |_=>none
def mf(t u v w:Ty)(l:List SV)(K:El t->El u->El v->El w->Option R):Option R:=
 match l with
 | [a,b,c,d]=>a.el t λx=>b.el u λy=>c.el v λz=>d.el w λz'=>K x y z z'
 |_=>none
end
theorem apx{R:Type}{t:Ty}{v:SV}{r:List Ty}{q:List SV}{K:El t->Option R}{z:R}{v':SV}{q':List SV}(hn:aR (t::r) (v::q)=v'::q')(h:v'.el t K=some z):∃y,v'= .aq t y []/\q'=aR r q/\K y=some z:=by
 have key:v'=v.shut/\q'=aR r q\/(∃e u,t= .sl e u/\v'= .aq (.sl e u) ([]:List (El u)) []/\q'=aR r q):=by cases t<;>cases v<;>simp only[aR,List.cons.injEq] at hn<;>first|exact .inl ⟨hn.1.symm,hn.2.symm⟩|exact .inr ⟨_,_,rfl,hn.1.symm,hn.2.symm⟩
 rcases key with⟨rfl,rfl⟩|⟨e,u,rfl,rfl,rfl⟩
 ·cases v with
  |aq t' x own=>
   simp only[SV.shut,SV.el] at h;split at h
   ·rename_i heq;have:=Ty.aK heq;subst this;exact⟨x,rfl,rfl,h⟩
   ·cases h
  |cR=>cases t<;>first|(simp [SV.shut,SV.el] at h;done)|(simp [aR,SV.shut] at hn;done)
  |_=>simp [SV.shut,SV.el] at h
 ·simp only[SV.el,Ty.cw,dite_true] at h;exact⟨[],rfl,rfl,h⟩
theorem V5(hE:ak P E){H:Type}{enc:TypeId×Value->H}{w:World}{spare:Nat->Bool}{held:Bool}{β:Nat->Option Nat}{base b:Nat}{T:TypeId}{t:Ty}{v:Value}{d:DataW H}{ps:List MemPlace}(hT:E.ty T=some t)(jb:t.gX=true)
 (hv:zf6 P w .any b T v) (hd:DataW.Trod enc P w base spare held T v d ps):∃y:El t,Wf t y/\∀q,aC (xH w β) q (.aq t y []) v:=by
 obtain⟨cC,hd⟩:=hd;obtain⟨y,r,wf⟩:=(apO (β:=β) hE t).1 T cC _ _ hT jb hd;refine⟨y,wf,λq=>⟨_,r,?_,nm⟩⟩;have hu:=(hE.ty T t hT).dJ;have hl:=r.len;cases ht:t.agg with
 |true=>
  rw[kz ht];have:∃cs,v= .agg cs:=by
   unfold zf6 at hv;cases t with
   |arr n t=>obtain⟨e,h1,_⟩:=hu;rw[h1] at hv;obtain⟨cs,h,_⟩:=hv;exact⟨cs,h⟩
   |unit=>obtain⟨fs,h1,_⟩:=hu;rw[h1] at hv;obtain⟨cs,h,_⟩:=hv;exact⟨cs,h⟩
   |pair a b=>obtain⟨fs,h1,_⟩:=hu;rw[h1] at hv;obtain⟨cs,h,_⟩:=hv;exact⟨cs,h⟩
   |aY k a b=>exact absurd (hE.jF hT) (by simp [Ty.bO])
   |_=>simp [Ty.agg] at ht
  obtain⟨cs,rfl⟩:=this;rfl
 |false=>
  have aat:∀cs,v≠ .agg cs:=by
   rintro cs rfl;unfold zf6 at hv;cases t with
   |bool=>have hu:P.underlying T=some .bool:=hu;rw[hu] at hv;unfold zgQ at hv;rw[hu] at hv;unfold Cell.ok at hv;rw[hu] at hv;exact hv
   |int k=>have hu:P.underlying T=some (.int k):=hu;rw[hu] at hv;unfold zgQ at hv;rw[hu] at hv;unfold Cell.ok at hv;rw[hu] at hv;exact hv
   |str=>have hu:P.underlying T=some .string:=hu;rw[hu] at hv;unfold zgQ at hv;rw[hu] at hv;unfold Cell.ok at hv;rw[hu] at hv;exact hv
   |sl e t=>have hu:P.underlying T=some (.slice e):=hu.1;rw[hu] at hv;unfold zgQ at hv;rw[hu] at hv;unfold Cell.ok at hv;rw[hu] at hv;exact hv
   |_=>simp [Ty.agg] at ht
  have hc:v.cells.toList=[v]:=by cases v<;>first|rfl|exact absurd rfl (aat _)
  rw[hc,zfe ht]
theorem afr{w:World}{β:Nat->Option Nat}{Y:aw}(h:Ext (xH w β) Y):∀g,g<w.heap.size->Y.w.heap[g]? =w.heap[g]? :=λg hg=>(h.still g hg trivial).2
end Go.Ref

namespace Go.Ref
open Go
theorem LV{x:Int}(h1: -9223372036854775808<=x)(h2:x<=9223372036854775807):IntKind.i64.wrap x=x:=by simp [IntKind.wrap,IntKind.signed,IntKind.bits];omega
theorem ajp{R:Type}{j n:Nat}{x:Option R}(h:j<n):zd (j:Int) n x=x:=by unfold zd;rw[decide_eq_true (by omega:(0:Int)<=j),decide_eq_true (by omega:(j:Int)<n)];rfl
variable {P:Program} {E:Env}
def zgt(X:aw):List SV->List Value->Prop
 | [],[]=>True
 |s::l,v::vs=>(∀q,aC X q s v)/\(∀id t p,s≠ .ptr id t p)/\zgt X l vs
 |_,_=>False
theorem SM{X:aw}:∀{l:List SV} {vs:List Value},zgt X l vs->vs.length=l.length/\∀(i:Nat) s v,l[i]? =some s->vs[i]? =some v->(∀q,aC X q s v)/\∀id t p,s≠ .ptr id t p
 | [],[],_=>⟨rfl,λi s v h=>by simp at h⟩
 |s::l,v::vs,h=>by
  obtain⟨h1,h2,h3⟩:=h;obtain⟨g1,g2⟩:=SM h3;refine⟨by simp [g1],λi s' v' hs hv=> ?_⟩;cases i with
  |zero=>simp only[zaB,AI] at hs hv;subst hs hv;exact⟨h1,h2⟩
  |succ i=>simp only[zax] at hs hv;exact g2 i s' v' hs hv
theorem amn{X:aw}{l:List SV}{args:Array Value}(h:zgt X l args.toList)(hX:∀g pl n,X.ow g≠ .row pl n)(hβ:∀id,X.β id=none):kG X l none args:=by
 obtain⟨h1,h2⟩:=SM h;refine⟨by simpa using h1,λi sv v hs hv=>(h2 i sv v hs (by simpa using hv)).1 _,λid t p hm=> ?_,λB hB=>(by cases hB),λ_=>hX,za9.2 λv hm=> ?_⟩
 ·obtain⟨i,hi⟩:=zbi.1 hm;have ap:=(AS.1 hi).1;have gO:i<args.toList.length:=by omega
  exact absurd rfl ((h2 i _ _ hi (ks gO)).2 id t p)
 ·obtain⟨i,hi⟩:=zbi.1 hm;have ap:=(AS.1 hi).1;have gO:i<args.toList.length:=by omega
  have hv:=(h2 i _ _ hi (ks gO)).1 (λ_=> .r 0 []);cases v with
  |bF id c d j=>obtain⟨r,e,_⟩:=hv;rw[hβ id] at e;cases e
  |_=>simp [SV.bW]
theorem aiX{C:ai}{f:FuncId}(ho:dh P C f){l:List SV}{args:Array Value}{W:World}{b:Bool}(hc:C (List SV×Option bH) f l none (λr b=>some (r,b))=some ([.aq .bool b []],none))(iI:zgt (xH W λ_=>none) l args.toList):
 Calls P f args W λe w'=>e= .returned (.bool b)/\zej W.heap.size W w':=by
 refine((ho l none _ _ hc).2 (xH W λ_=>none) args (amn iI (λg pl n e=>by cases e) λ_=>rfl)).mono λe w' he=> ?_;cases e with
 |returned v=>obtain⟨Y,rfl,bc,r0,aO,_,_,_⟩:=he;have aO:aC {Y with β:=λ_=>some r0} (.r 0) (.aq .bool b []) v:=aO;refine⟨by rw[YX aO],bc.os,bc.tape,bc.output,bc.size,λk hk=>afr bc k hk⟩
 |panicked c=>exact he.elim
 |outgrown=>exact he.elim
end Go.Ref

namespace Go.Ref
open Go
variable {P:Program} {E:Env}
def bs(l:List Nat):ByteArray:=⟨(l.map UInt8.ofNat).toArray⟩
@[irreducible] def af:Nat:=18446744073709551616
theorem afc{R:Type}(f:Unit->Option R):bq af f=f ():=by
 have:af=18446744073709551615+1:=by unfold af;rfl
 rw[this];rfl
section
variable {R S:Type}
def R0(body:State->(Ex->State->Option R)->Option R)(l lx:List Nat)(k:Nat)(K:Ex->State->Option R):Ex->State->Option R:=λe s=>match e with
 | .normal=>uq l s λs=>gS body l lx k s K
 |e=>uq lx s λs=>K e s
def kj(t:Ty)(own:List (List Nat))(l:List SV)(b:Option bH)(K:El t->List SV->Option R):Option R:=
 match l,b with
 | .ptr 0 u []::r,some B=>if h:B.t.cB t=true then if(u.cB t&&B.own==own)=true then K (Ty.cast h B.x) r else none else none
 |_,_=>none
def me(t pt bt:Ty)(own:List (List Nat))(l:List SV)(b:Option bH)(K:El t->El bt->Option R):Option R:=
 match l,b with
 | [a,.ptr 0 u []],some B=>if h:B.t.cB bt=true then if(u.cB pt&&B.own==own)=true then a.el t λy=>K y (Ty.cast h B.x) else none else none
 |_,_=>none
def OX(t u v w:Ty)(l:List SV)(K:El t->El u->El v->El w->Option R):Option R:=
 match l with
 | [a,b,.view v' x,.view w' y]=>if h:v'.cB v=true then if h2:w'.cB w=true then a.el t λp=>b.el u λq=>K p q (Ty.cast h x) (Ty.cast h2 y) else none else none
 |_=>none
def gT(b:Option bH)(K:Option R):Option R:=
 match b with
 |none=>K
 |some _=>none
theorem L5{b:Option bH}{F:Option R}{G:Option S}{K:S->Option R}(h:F=G.bind K):gT b F=(gT b G).bind K:=by
 cases b
 ·exact h
 ·rfl
theorem L0{b:Option bH}{F:Option R}{z:R}(h:gT b F=some z):b=none/\F=some z:=by
 cases b
 ·exact⟨rfl,h⟩
 ·cases h
theorem zlf(c:Bool)(x y:Option S)(F:S->Option R):(bif c then x else y).bind F=bif c then x.bind F else y.bind F:=by cases c<;>rfl
theorem aes(i:Int)(n:Nat)(x:Option S)(F:S->Option R):(zd i n x).bind F=zd i n (x.bind F):=by unfold zd;rw[zlf,zlf];rfl
theorem aiE(F:S->Option R):(none:Option S).bind F=none:=Eq.trans rfl rfl
theorem zc(x:S)(F:S->Option R):(some x).bind F=F x:=Eq.trans rfl rfl
theorem amZ{α β:Type}(f:α->Option S)(g:β->Option S)(e:α⊕β)(F:S->Option R):(GB f g e).bind F=GB (λx=>(f x).bind F) (λx=>(g x).bind F) e:=by cases e<;>rfl
theorem ahN{α:Type}(x:Option α)(f:α->Option S)(F:S->Option R):(x.bind f).bind F=x.bind λy=>(f y).bind F:=by cases x<;>rfl
theorem zky{l:List SV}{F:Option R}{G:Option S}{K:S->Option R}(h:F=G.bind K):gF l F=(gF l G).bind K:=by
 unfold gF;split
 ·exact h
 ·rfl
theorem zkz{t:Ty}{l:List SV}{F:El t->Option R}{G:El t->Option S}{K:S->Option R}(h:∀x,F x=(G x).bind K):gG t l F=(gG t l G).bind K:=by
 unfold gG;split
 ·exact zv h
 ·rfl
theorem zl0{t u:Ty}{l:List SV}{F:El t->El u->Option R}{G:El t->El u->Option S}{K:S->Option R}(h:∀x y,F x y=(G x y).bind K):fW t u l F=(fW t u l G).bind K:=by
 unfold fW;split
 ·exact zv λx=>zv λy=>h x y
 ·rfl
theorem TC{t u v:Ty}{l:List SV}{F:El t->El u->El v->Option R}{G:El t->El u->El v->Option S}{K:S->Option R}(h:∀x y z,F x y z=(G x y z).bind K):iR t u v l F=(iR t u v l G).bind K:=by
 unfold iR;split
 ·exact zv λx=>zv λy=>zv λz=>h x y z
 ·rfl
theorem ahK{t u v w:Ty}{l:List SV}{F:El t->El u->El v->El w->Option R}{G:El t->El u->El v->El w->Option S}{K:S->Option R}(h:∀x y z a,F x y z a=(G x y z a).bind K):mf t u v w l F=(mf t u v w l G).bind K:=by
 unfold mf;split
 ·exact zv λx=>zv λy=>zv λz=>zv λa=>h x y z a
 ·rfl
theorem NW{t:Ty}{own:List (List Nat)}{l:List SV}{b:Option bH}{F:El t->List SV->Option R}{G:El t->List SV->Option S}{K:S->Option R}(h:∀x r,F x r=(G x r).bind K):kj t own l b F=(kj t own l b G).bind K:=by
 unfold kj;split
 ·split
  ·split
   ·exact h _ _
   ·rfl
  ·rfl
 ·rfl
theorem ahJ{t pt bt:Ty}{own:List (List Nat)}{l:List SV}{b:Option bH}{F:El t->El bt->Option R}{G:El t->El bt->Option S}{K:S->Option R}(h:∀x y,F x y=(G x y).bind K):me t pt bt own l b F=(me t pt bt own l b G).bind K:=by
 unfold me;split
 ·split
  ·split
   ·exact zv λy=>h _ _
   ·rfl
  ·rfl
 ·rfl
theorem aeK{t u v w:Ty}{l:List SV}{F:El t->El u->El v->El w->Option R}{G:El t->El u->El v->El w->Option S}{K:S->Option R}(h:∀x y z a,F x y z a=(G x y z a).bind K):OX t u v w l F=(OX t u v w l G).bind K:=by
 unfold OX;split
 ·split
  ·split
   ·exact zv λx=>zv λy=>h x y _ _
   ·rfl
  ·rfl
 ·rfl
theorem sM{α:Type}{m:Option α}{F:α->Option R}{G:α->Option S}{K:S->Option R}(h:∀r,F r=(G r).bind K):m.bind F=(m.bind G).bind K:=by
 cases m with
 |none=>rfl
 |some x=>exact h x
theorem zfg{α β:Type}{f:α->Option R}{g:β->Option R}{f':α->Option S}{g':β->Option S}{K:S->Option R}{e:α⊕β}(h1:∀x,f x=(f' x).bind K)(h2:∀x,g x=(g' x).bind K):GB f g e=(GB f' g' e).bind K:=by
 cases e with
 |inl x=>exact h1 x
 |inr x=>exact h2 x
end
section
variable {R:Type}
theorem aii{C:FuncId->cc R}{k:Nat}{fn:Func}{code:Code}{l q:List SV}{b:Option bH}{K:List SV->Option bH->Option R}(h:aR E.ps l=q)(hq:aR E.ps q=q)(hl:q.length=l.length):kq E C k fn code l b K=kq E C k fn code q b K:=by unfold kq;simp only[h,hq,hl]
theorem UB:∀{ts:List Ty} {q:List SV},(∀s∈q,s.shut=s/\s≠ .cR)->aR ts q=q
 |ts,[],_=>by cases ts<;>simp [aR]
 | [],q,_=>by simp [aR]
 |t::r,v::q,h=>by have h1:=h v (by simp);have h2:=UB (ts:=r) (q:=q) (λs hs=>h s (by simp [hs]));cases t<;>cases v<;>simp [aR,h2]<;>first|exact h1.1|exact absurd rfl h1.2
theorem z227{ts:List Ty}{l:List SV}(h:aR ts l=[]):l=[]:=by have:=zc6 ts l;rw[h] at this;exact List.length_eq_zero_iff.1 this.symm
theorem UA{t:Ty}{r:List Ty}{l:List SV}{v':SV}{q':List SV}(h:aR (t::r) l=v'::q'):∃v q,l=v::q:=by
 cases l with
 |nil=>simp [aR] at h
 |cons v q=>exact⟨v,q,rfl⟩
theorem z21{t:Ty}{r:List Ty}{l:List SV}{a:SV}{q':List SV}{K:El t->Option R}{z:R}(hn:aR (t::r) l=a::q')(h:a.el t K=some z):∃y v q,a= .aq t y []/\l=v::q/\aR r q=q'/\K y=some z:=by obtain⟨v,q,rfl⟩:=UA hn;obtain⟨y,h1,h2,h3⟩:=apx hn h;exact⟨y,v,q,h1,rfl,h2.symm,h3⟩
theorem L7{l q:List SV}(hn:aR E.ps l=q)(hd:∀s∈q,s.shut=s/\s≠ .cR){C:FuncId->cc R}{k:Nat}{fn:Func}{code:Code}{b:Option bH}{K:List SV->Option bH->Option R}:kq E C k fn code l b K=kq E C k fn code q b K:=
 aii hn (UB hd) (by rw[<-hn,zc6])
theorem yw{t:Ty}{x:El t}:(SV.aq t x []).shut=SV.aq t x []/\SV.aq t x []≠ .cR:=⟨rfl,by simp⟩
def gD(E:Env)(l q:List SV):Prop:=∀{R:Type} (C:FuncId->cc R) (k:Nat) (fn:Func) (code:Code) (b:Option bH) (K:List SV->Option bH->Option R),kq E C k fn code l b K=kq E C k fn code q b K
theorem AR{l:List SV}{F:Option R}{z:R}(iz:E.ps=[])(h:gF (aR [] l) F=some z):F=some z/\gD E l []:=by
 unfold gF at h;split at h
 ·rename_i hn;have:=z227 hn;subst this;exact⟨h,λC k fn code b K=>rfl⟩
 ·cases h
theorem R8{t:Ty}{l:List SV}{F:El t->Option R}{z:R}(iz:E.ps=[t])(h:gG t (aR [t] l) F=some z):∃x,F x=some z/\gD E l [.aq t x []]:=by
 unfold gG at h;split at h
 ·rename_i a hn;obtain⟨x,v,q,rfl,rfl,h1,h⟩:=z21 hn h;refine⟨x,h,λC k fn code b K=>L7 (by rw[iz];exact hn) ?_⟩;intro s hs;simp only[If,zbk,or_false] at hs;subst hs;exact yw
 ·cases h
theorem lB{t u:Ty}{l:List SV}{F:El t->El u->Option R}{z:R}(iz:E.ps=[t,u])(h:fW t u (aR [t,u] l) F=some z):∃x y,F x y=some z/\gD E l [.aq t x [],.aq u y []]:=by
 unfold fW at h;split at h
 ·rename_i a b hn;obtain⟨x,v,q,rfl,rfl,h1,h⟩:=z21 hn h;obtain⟨y,v',q',rfl,rfl,h2,h⟩:=z21 h1 h;refine⟨x,y,h,λC k fn code b K=>L7 (by rw[iz];exact hn) ?_⟩;intro s hs;simp only[If,zbk,or_false] at hs;rcases hs with rfl|rfl<;>exact yw
 ·cases h
theorem acG{t u v:Ty}{l:List SV}{F:El t->El u->El v->Option R}{z:R}(iz:E.ps=[t,u,v])(h:iR t u v (aR [t,u,v] l) F=some z):∃x y a,F x y a=some z/\gD E l [.aq t x [],.aq u y [],.aq v a []]:=by
 unfold iR at h;split at h
 ·rename_i a b c hn;obtain⟨x,v,q,rfl,rfl,h1,h⟩:=z21 hn h;obtain⟨y,v',q',rfl,rfl,h2,h⟩:=z21 h1 h;obtain⟨w,v',q',rfl,rfl,h3,h⟩:=z21 h2 h;refine⟨x,y,w,h,λC k fn code b K=>L7 (by rw[iz];exact hn) ?_⟩;intro s hs;simp only[If,zbk,or_false] at hs;rcases hs with rfl|rfl|rfl<;>exact yw
 ·cases h
theorem acH{t u v w:Ty}{l:List SV}{F:El t->El u->El v->El w->Option R}{z:R}(iz:E.ps=[t,u,v,w])(h:mf t u v w (aR [t,u,v,w] l) F=some z):∃x y a b,F x y a b=some z/\gD E l [.aq t x [],.aq u y [],.aq v a [],.aq w b []]:=by
 unfold mf at h;split at h
 ·rename_i a b c d hn;obtain⟨x,v,q,rfl,rfl,h1,h⟩:=z21 hn h;obtain⟨y,v',q',rfl,rfl,h2,h⟩:=z21 h1 h;obtain⟨w,v',q',rfl,rfl,h3,h⟩:=z21 h2 h;obtain⟨w',v',q',rfl,rfl,h4,h⟩:=z21 h3 h;refine⟨x,y,w,w',h,λC k fn code b K=>L7 (by rw[iz];exact hn) ?_⟩;intro s hs;simp only[If,zbk,or_false] at hs;rcases hs with rfl|rfl|rfl|rfl<;>exact yw
 ·cases h
theorem zkx{t:Ty}{own:List (List Nat)}{l:List SV}{b:Option bH}{F:El t->List SV->Option R}{z:R}(h:kj t own l b F=some z):∃x r,l= .ptr 0 t []::r/\b=some ⟨t,x,own⟩/\F x r=some z:=by
 unfold kj at h;split at h
 ·rename_i u r B;split at h
  ·rename_i hB;split at h
   ·rename_i hu;simp only[nd,beq_iff_eq] at hu;obtain⟨h1,h2⟩:=hu;obtain⟨Bt,Bx,Bo⟩:=B;have:=Ty.aK hB;have h3:=Ty.aK h1;subst this;subst h3;subst h2;exact⟨Bx,r,rfl,rfl,h⟩
   ·cases h
  ·cases h
 ·cases h
theorem amR{ts:List Ty}{l:List SV}{t:Ty}{r:List SV}(h:aR (.unit::ts) l= .ptr 0 t []::r):∃q,l= .ptr 0 t []::q/\aR ts q=r:=by obtain⟨v,q,rfl⟩:=UA h;cases v<;>simp [aR,SV.shut] at h;obtain⟨⟨rfl,rfl,rfl⟩,h2⟩:=h;exact⟨q,rfl,h2⟩
theorem YS{t:Ty}:(SV.ptr 0 t []).shut=SV.ptr 0 t []/\SV.ptr 0 t []≠ .cR:=⟨rfl,by simp⟩
theorem AU{t:Ty}{own:List (List Nat)}{ts:List Ty}{l:List SV}{b:Option bH}{F:El t->List SV->Option R}{z:R}(h:kj t own (aR (.unit::ts) l) b F=some z):∃x q,l= .ptr 0 t []::q/\b=some ⟨t,x,own⟩/\F x (aR ts q)=some z:=by obtain⟨x,r,h1,h2,h3⟩:=zkx h;obtain⟨q,rfl,hq⟩:=amR h1;exact⟨x,q,rfl,h2,by rw[hq];exact h3⟩
theorem gD.ptr{t:Ty}{ts:List Ty}{q q':List SV}(iz:E.ps= .unit::ts)(hn:aR ts q=q')(hd:∀s∈q',s.shut=s/\s≠ .cR):gD E (.ptr 0 t []::q) (.ptr 0 t []::q'):=λC k fn code b K=>
 L7 (by rw[iz];simp [aR,SV.shut,hn]) (λs hs=>by
  rcases If.1 hs with rfl|hs
  ·exact YS
  ·exact hd s hs)
theorem R9{t:Ty}{q:List SV}{F:Option R}{z:R}(iz:E.ps=[.unit])(h:gF (aR [] q) F=some z):F=some z/\gD E (.ptr 0 t []::q) [.ptr 0 t []]:=by
 unfold gF at h;split at h
 ·rename_i hn;exact⟨h,gD.ptr iz hn (by simp)⟩
 ·cases h
theorem Sa{t u:Ty}{q:List SV}{F:El u->Option R}{z:R}(iz:E.ps=[.unit,u])(h:gG u (aR [u] q) F=some z):∃x,F x=some z/\gD E (.ptr 0 t []::q) [.ptr 0 t [],.aq u x []]:=by
 unfold gG at h;split at h
 ·rename_i a hn;obtain⟨x,v,q,rfl,rfl,h1,h⟩:=z21 hn h;refine⟨x,h,gD.ptr iz hn ?_⟩;intro s hs;simp only[If,zbk,or_false] at hs;subst hs;exact yw
 ·cases h
theorem Sb{t u v:Ty}{q:List SV}{F:El u->El v->Option R}{z:R}(iz:E.ps=[.unit,u,v])(h:fW u v (aR [u,v] q) F=some z):∃x y,F x y=some z/\gD E (.ptr 0 t []::q) [.ptr 0 t [],.aq u x [],.aq v y []]:=by
 unfold fW at h;split at h
 ·rename_i a b hn;obtain⟨x,v,q,rfl,rfl,h1,h⟩:=z21 hn h;obtain⟨y,v',q',rfl,rfl,h2,h⟩:=z21 h1 h;refine⟨x,y,h,gD.ptr iz hn ?_⟩;intro s hs;simp only[If,zbk,or_false] at hs;rcases hs with rfl|rfl<;>exact yw
 ·cases h
theorem Sc{t u v w:Ty}{q:List SV}{F:El u->El v->El w->Option R}{z:R}(iz:E.ps=[.unit,u,v,w])(h:iR u v w (aR [u,v,w] q) F=some z):∃x y a,F x y a=some z/\gD E (.ptr 0 t []::q) [.ptr 0 t [],.aq u x [],.aq v y [],.aq w a []]:=by
 unfold iR at h;split at h
 ·rename_i a b c hn;obtain⟨x,v,q,rfl,rfl,h1,h⟩:=z21 hn h;obtain⟨y,v',q',rfl,rfl,h2,h⟩:=z21 h1 h;obtain⟨w',v',q',rfl,rfl,h3,h⟩:=z21 h2 h;refine⟨x,y,w',h,gD.ptr iz hn ?_⟩;intro s hs;simp only[If,zbk,or_false] at hs;rcases hs with rfl|rfl|rfl<;>exact yw
 ·cases h
theorem Se{t pt bt:Ty}{own:List (List Nat)}{l:List SV}{b:Option bH}{F:El t->El bt->Option R}{z:R}(iz:E.ps=[t,.unit])(h:me t pt bt own (aR [t,.unit] l) b F=some z):
 ∃x y,b=some ⟨bt,y,own⟩/\F x y=some z/\gD E l [.aq t x [],.ptr 0 pt []]:=by
 unfold me at h;split at h
 ·rename_i a u B hn;split at h
  ·rename_i hB;split at h
   ·rename_i hu;simp only[nd,beq_iff_eq] at hu;obtain⟨h1,h2⟩:=hu;obtain⟨Bt,Bx,Bo⟩:=B;have:=Ty.aK hB;have h3:=Ty.aK h1;subst this;subst h3;subst h2;obtain⟨y,v,q,rfl,rfl,h4,h⟩:=z21 hn h;refine⟨y,Bx,rfl,h,λC k fn code b K=>L7 (by rw[iz];exact hn) ?_⟩;intro s hs;simp only[If,zbk,or_false] at hs;rcases hs with rfl|rfl
    ·exact yw
    ·exact YS
   ·cases h
  ·cases h
 ·cases h
theorem XV{t:Ty}{x:El t}:(SV.view t x).shut=SV.view t x/\SV.view t x≠ .cR:=⟨rfl,by simp⟩
theorem Sd{t u v w:Ty}{l:List SV}{F:El t->El u->El v->El w->Option R}{z:R}(iz:E.ps=[t,u,.unit,.unit])(h:OX t u v w (aR [t,u,.unit,.unit] l) F=some z):
 ∃p q x y,F p q x y=some z/\gD E l [.aq t p [],.aq u q [],.view v x,.view w y]:=by
 unfold OX at h;split at h
 ·rename_i a b v' x w' y hn;split at h
  ·rename_i hv;split at h
   ·rename_i hw;have:=Ty.aK hv;have h3:=Ty.aK hw;subst this;subst h3;obtain⟨p,v1,q1,rfl,rfl,h4,h⟩:=z21 hn h;obtain⟨q,v2,q2,rfl,rfl,h5,h⟩:=z21 h4 h;refine⟨p,q,x,y,h,λC k fn code b K=>L7 (by rw[iz];exact hn) ?_⟩;intro s hs;simp only[If,zbk,or_false] at hs;rcases hs with rfl|rfl|rfl|rfl
    ·exact yw
    ·exact yw
    ·exact XV
    ·exact XV
   ·cases h
  ·cases h
 ·cases h
end
end Go.Ref

namespace Go.Ref
open Go
variable {P:Program} {E:Env}
def aw.after(X:aw)(w:World):aw:=⟨w,λg=>if g<X.w.heap.size then X.ow g else .ro 0,X.β⟩
theorem SA{X:aw}{w:World}(h:zej X.w.heap.size X.w w){a:Addr}{v:Value}(hs:X.aB a v):(X.after w).aB a v:=by
 have ap:=aw.jn hs;refine⟨hs.1,?_,?_⟩
 ·have:=hs.2.1;simp only[zaP] at this⊢;rw[show(X.after w).w=w from rfl,h.block _ ap];exact this
 ·simp only[aw.after];rw[if_pos ap];exact hs.2.2
theorem ahG{X:aw}{w:World}(h:zej X.w.heap.size X.w w):Ext X (X.after w) where
 aB:=λ_ _=>SA h
 size:=h.size
 os:=h.os
 tape:=h.tape
 output:=h.output
 β0:=rfl
 still:=λg hg _=>⟨by simp only[aw.after];rw[if_pos hg],h.block g hg⟩
theorem amE{C:ai}(h0:∀f,dh P C f){n:FuncId}{g:Pure}(eW:uv P n)
 (h:∀(l:List SV) (b:Option bH) (r:List SV) (b':Option bH),g (List SV×Option bH) l b (λr b=>some (r,b))=some (r,b')->b'=none/\(∀id t p,SV.ptr id t p∉r)/\r.any SV.bW=false/\
   ∀(X:aw) (args:Array Value),kG X l b args->Calls P n args X.w λe w'=>∃v,e= .returned v/\zej X.w.heap.size X.w w'/\∀Y:aw,Y.w=w'->(∀a v,X.aB a v->Y.aB a v)->cW Y .r r v):∀f,dh P (C.add n [] g) f:=by
 intro f;by_cases e:f=n
 ·subst e;intro l b r b' hc;unfold ai.add at hc;have hb:xz f f=true:=by simp
  rw[hb] at hc;have hc:g (List SV×Option bH) (aR [] l) b (λr b=>some (r,b))=some (r,b'):=hc;have hl:aR [] l=l:=by cases l<;>rfl
  rw[hl] at hc;obtain⟨rfl,hp,eE,Gj⟩:=h l b r b' hc;refine⟨eW,λX args iI=>(Gj X args iI).mono λe w' he=> ?_⟩;obtain⟨v,rfl,hB,aO⟩:=he;refine⟨X.after w',rfl,ahG hB,0,aO {X.after w' with β:=λ_=>some 0} rfl (λa v hs=>(SA hB hs:(X.after w').aB a v)),λB' eS=>(by cases eS),λ_=>hp,eE⟩
 ·intro l b r b' hc;unfold ai.add at hc;have:xz f n=false:=by
   cases hh:xz f n with
   |false=>rfl
   |true=>exact absurd (DD hh) e
  rw[this] at hc;exact h0 f l b r b' hc
theorem T6{X:aw}{l:List SV}{b:Option bH}{args:Array Value}(h:kG X l b args){i:Nat}{sv:SV}(hs:l[i]? =some sv){x:ByteArray}(hx:∀(X:aw) (pl:List Nat->Place) (v:Value),aC X pl sv v->∃cs,bm X .str x cs/\v=er .str cs):args[i]? =some (.string x):=by
 have ap:i<args.size:=by rw[h.size];exact(AS.1 hs).1
 rw[XN ap];obtain⟨cs,h1,h2⟩:=hx X _ _ (h.rep i sv _ hs (XN ap));rw[h2,oJ h1]
theorem aif{X:aw}{l:List SV}{b:Option bH}{args:Array Value}(h:kG X l b args){i:Nat}{sv:SV}(hs:l[i]? =some sv){k:IntKind}{n:Int}(hx:∀(X:aw) (pl:List Nat->Place) (v:Value),aC X pl sv v->∃cs,bm X (.int k) n cs/\v=er (.int k) cs):args[i]? =some (.int k n):=by
 have ap:i<args.size:=by rw[h.size];exact(AS.1 hs).1
 rw[XN ap];obtain⟨cs,h1,h2⟩:=hx X _ _ (h.rep i sv _ hs (XN ap));rw[h2,mG h1]
theorem al4{args:Array Value}{v:Value}(hs:args.size=1)(h:args[0]? =some v):args= #[v]:=by
 apply Array.ext'
 match hl:args.toList,(show args.toList.length=1 by simpa using hs) with
 | [x],_=>
   have:args.toList[0]? =some v:=by simpa using h
   rw[hl] at this;simpa using this
theorem Vj{args:Array Value}{u v:Value}(hs:args.size=2)(h:args[0]? =some u)(h1:args[1]? =some v):args= #[u,v]:=by
 apply Array.ext'
 match hl:args.toList,(show args.toList.length=2 by simpa using hs) with
 | [x,y],_=>
   have a:args.toList[0]? =some u:=by simpa using h
   have b:args.toList[1]? =some v:=by simpa using h1
   rw[hl] at a b;simp at a b;rw[a,b]
theorem amF{C:ai}(h0:∀f,dh P C f){n:FuncId}(eW:uv P n)(F:ByteArray->Int->Option ByteArray)
 (h:∀(s:ByteArray) (k:Int) (r:ByteArray),F s k=some r->∀w:World,Calls P n #[.string s,.int .i64 k] w λe w'=>e= .returned (.string r)/\zej w.heap.size w w'):
 ∀f,dh P (C.add n [] λR l b K=>gT b (fW .str (.int .i64) l λx0 x1=>(F x0 x1).bind λr=>K [.aq .str r []] none)) f:=by
 refine amE h0 eW λl b r b' hc=> ?_;obtain⟨hb,hc2⟩:=L0 hc;clear hc;subst hb;have hc:=hc2;clear hc2;unfold fW at hc;split at hc
 case h_2=>cases hc
 rename_i sa sb;obtain⟨s,hc,hs⟩:=hN hc;obtain⟨k,hc,hk⟩:=hN hc;have hc:((F s k).bind λr=>some (([SV.aq .str r []]:List SV),(none:Option bH)))=some (r,b'):=hc;cases hF:F s k with
 |none=>rw[hF] at hc;cases hc
 |some x=>rw[hF] at hc;cases hc;refine⟨rfl,(λid t p hm=>by simp at hm),rfl,λX args iI=> ?_⟩;have e:=Vj iI.size (T6 iI rfl hs) (aif iI rfl hk);rw[e];exact(h s k x hF X.w).mono λe w' ⟨he,hB⟩=>⟨_,he,hB,λY _ _=>Fu⟩
end Go.Ref
namespace bz
open Go Go.Ref
def strings_Repeat(s:ByteArray)(k:Int):Option ByteArray:=
 bif decide (0<=k) then bif decide (k<=9223372036854775807) then bif decide ((s.size:Int)*k<=140737488355328) then some ⟨(Go.Lib.repeatL s.data.toList k.toNat).toArray⟩ else none else none else none
theorem zgl{P:Program}{ρ:Go.Shelf.Ren}(L:Go.Proofs.Lays.n105 P ρ)(B:Go.Proofs.Builder.Extra P ρ){n:FuncId}(hn:ρ.f 105=n)(s:ByteArray)(k:Int)(r:ByteArray)(h:strings_Repeat s k=some r)(w:World):
 Calls P n #[.string s,.int .i64 k] w λe w'=>e= .returned (.string r)/\zej w.heap.size w w':=by
 subst hn;unfold strings_Repeat at h;by_cases h0:0<=k
 ·by_cases h1:k<=9223372036854775807
  ·by_cases h2:(s.size:Int)*k<=140737488355328
   ·rw[decide_eq_true h0,decide_eq_true h1,decide_eq_true h2] at h;cases h;obtain⟨c,rfl⟩:∃c:Nat,k=(c:Int):=⟨k.toNat,by omega⟩
    exact Go.Proofs.Any.strings_Repeat L B s c w (by omega) (by rw[<-Int.natCast_mul] at h2;omega)
   ·rw[decide_eq_true h0,decide_eq_true h1,decide_eq_false h2] at h;cases h
  ·rw[decide_eq_true h0,decide_eq_false h1] at h;cases h
 ·rw[decide_eq_false h0] at h;cases h
end bz

namespace Go.Ref
open Go Go.Shelf Go.RowKit Go.Proofs
variable {P:Program} {E:Env} {ρ:Ren}
abbrev A3(T e:TypeId):Ty:= .aY (.kl T e) .unit .unit
def z23(x s:ByteArray):Option (Int×ByteArray):=bif decide (x.size+s.size<=140737488355328) then some ((s.size:Int),x++s) else none
def z60(x:ByteArray):Option (ByteArray×ByteArray):=some (x,x)
def zl7(T e:TypeId):Pure:=λR l b K=>kj (A3 T e) [[]] l b λx0 l=>gG .str l λx1=>(z23 x0 x1).bind λr=>K [.aq (.int .i64) r.1 [],.undef] (some ⟨A3 T e,r.2,[[]]⟩)
def zl6(T e:TypeId):Pure:=λR l b K=>kj (A3 T e) [[]] l b λx0 l=>gF l ((z60 x0).bind λr=>K [.aq .str r.1 []] (some ⟨A3 T e,r.2,[]⟩))
theorem arc(T e:TypeId):(zl7 T e).Nat:=λR S l b F G K h=>NW λ_ _=>zkz λ_=>sM λ_=>h _ _
theorem arb(T e:TypeId):(zl6 T e).Nat:=λR S l b F G K h=>NW λ_ _=>zky (sM λ_=>h _ _)
theorem adL(x s:ByteArray):zcO (x++s)=zcO x++zcO s:=by simp [zcO,ByteArray.data_append]
def aw.kl(X:aw)(w:World)(r:Nat)(g:Option Nat):aw:=⟨w,λk=>if k=r then .box 0 else if g=some k then .row (.b 0 []) 0 else if k<X.w.heap.size then X.ow k else .ro 0,X.β⟩
theorem Xj{X:aw}{w:World}{r:Nat}{g0 g:Option Nat}(how:X.ow r= .box 0)(h0:∀k,g0=some k->X.ow k= .row (.b 0 []) 0)(h:hI r g0 X.w w)(hg:∀k,g=some k->g0=some k\/X.w.heap.size<=k):Ext X (X.kl w r g):=by
 have dy:∀k,k<X.w.heap.size->X.ow k≠ .box 0->X.ow k≠ .row (.b 0 []) 0->(X.kl w r g).ow k=X.ow k/\w.heap[k]? =X.w.heap[k]? :=λk hk h1 h2=>by
  have hr:k≠r:=λe=>h1 (by rw[e];exact how);have hg1:g≠some k:=λe=>by
   rcases hg k e with e2|e2
   ·exact h2 (h0 k e2)
   ·omega
  have hg2:some k≠g0:=λe=>h2 (h0 k e.symm);refine⟨?_,h.block k hk hr hg2⟩;simp only[aw.kl];rw[if_neg hr,if_neg hg1,if_pos hk]
 refine⟨λa v hs=> ?_,h.size,h.os,h.tape,h.output,rfl,λk hk bY=> ?_⟩
 ·have ap:=aw.jn hs;have hu:=hs.2.2;obtain⟨k1,k2⟩:=dy a.block ap (λe=>by rw[e] at hu;exact hu) (λe=>by rw[e] at hu;exact Nat.not_lt_zero _ hu);refine⟨hs.1,?_,by rw[k1];exact hu⟩;have:=hs.2.1;simp only[zaP] at this⊢;rw[show(X.kl w r g).w.heap=w.heap from rfl,k2];exact this
 ·exact dy k hk (λe=>by rw[e] at bY;exact bY) (λe=>by rw[e] at bY;exact bY)
theorem Vo(n:Nat):xz n n=true:=by simp
theorem YD{f n:Nat}(e:f≠n):xz f n=false:=by
 cases hh:xz f n with
 |false=>rfl
 |true=>exact absurd (DD hh) e
theorem ahP{C:ai}(h0:∀f,dh P C f){n T e:TypeId}(eW:uv P n)(L:Lays.n166 P ρ)(X0:Builder.Extra P ρ)(hn:ρ.f 166=n)(hT:ρ.t 72=T)(he:ρ.t 5=e):∀f,dh P (C.add n [] (zl7 T e)) f:=by
 subst hT he;intro f;by_cases ef:f=n
 ·subst ef;intro l b r b' hc;unfold ai.add at hc;rw[Vo] at hc;have hc:zl7 (ρ.t 72) (ρ.t 5) (List SV×Option bH) (aR [] l) b (λr b=>some (r,b))=some (r,b'):=hc;have hl:aR [] l=l:=by cases l<;>rfl
  rw[hl] at hc;unfold zl7 at hc;obtain⟨x,q,rfl,rfl,QZ⟩:=zkx hc;clear hc;have hc:=QZ;clear QZ;unfold gG at hc;split at hc
  case h_2=>cases hc
  rename_i a;obtain⟨s,hc,hs⟩:=hN hc;unfold z23 at hc;cases hd:decide (ByteArray.size x+s.size<=140737488355328) with
  |false=>rw[hd] at hc;cases hc
  |true=>
   rw[hd] at hc;cases hc;have hlen:=of_decide_eq_true hd;refine⟨eW,λX args iI=> ?_⟩;obtain⟨r0,hβ,how,⟨o,ho⟩,hb⟩:=iI.box _ rfl;obtain⟨v,hB,hv⟩:=hb (by simp);have dd:args.size=2:=by rw[iI.size];rfl
   have a0:args[0]? =some (.pointer (some ⟨r0,0,none⟩)):=by rw[XN (by omega)];obtain⟨r1,g1,g2⟩:=iI.rep 0 _ _ rfl (XN (by omega));rw[hβ] at g1;cases g1;rw[((Zt rfl).1 g2).1];rfl
   have a1:args[1]? =some (.string s):=T6 iI (i:=1) rfl hs;rw[Vj dd a0 a1,<-hn];refine(ahR L X0 r0 v (zcO x) s X.w hB (by rw[Lib.strCells_length];exact hlen)).mono ?_;rintro e w' ⟨rfl,v',eS,Ak,ix⟩;have hY:(X.kl w' r0 v'.ownBlock).ow r0= .box 0:=by simp [aw.kl]
   refine⟨X.kl w' r0 v'.ownBlock,rfl,Xj how hv Ak ix,r0,⟨_,rfl,rfl,λj sv u hj hu=> ?_⟩,λB' df=> ?_,(λ_ id t p hm=>by simp at hm),rfl⟩
   ·match j with
    |0=>cases hj;cases hu;exact j8
    |1=>cases hj;trivial
    |j+2=>simp at hj
   ·cases df;refine⟨⟨hY,?_,λ_=>⟨v',by rw[adL];exact eS,λg hg=> ?_⟩⟩,λ_=>hβ⟩
    ·rcases eS.nJ with h|h<;>exact⟨_,h⟩
    ·simp only[aw.kl];rw[if_neg (λe=>eS.ne (by rw[hg,e])),if_pos hg]
 ·intro l b r b' hc;unfold ai.add at hc;rw[YD ef] at hc;exact h0 f l b r b' hc
theorem ahO{C:ai}(h0:∀f,dh P C f){n T e:TypeId}(eW:uv P n)(L:Lays.n169 P ρ)(X0:Builder.Extra P ρ)(hn:ρ.f 169=n)(hT:ρ.t 72=T)(he:ρ.t 5=e):∀f,dh P (C.add n [] (zl6 T e)) f:=by
 subst hT he;intro f;by_cases ef:f=n
 ·subst ef;intro l b r b' hc;unfold ai.add at hc;rw[Vo] at hc;have hc:zl6 (ρ.t 72) (ρ.t 5) (List SV×Option bH) (aR [] l) b (λr b=>some (r,b))=some (r,b'):=hc;have hl:aR [] l=l:=by cases l<;>rfl
  rw[hl] at hc;unfold zl6 at hc;obtain⟨x,q,rfl,rfl,QZ⟩:=zkx hc;clear hc;have hc:=QZ;clear QZ;unfold gF at hc;split at hc
  case h_2=>cases hc
  cases hc;refine⟨eW,λX args iI=> ?_⟩;obtain⟨r0,hβ,how,⟨o,ho⟩,hb⟩:=iI.box _ rfl;obtain⟨v,hB,hv⟩:=hb (by simp);have dd:args.size=1:=by rw[iI.size];rfl
  have a0:args[0]? =some (.pointer (some ⟨r0,0,none⟩)):=by rw[XN (by omega)];obtain⟨r1,g1,g2⟩:=iI.rep 0 _ _ rfl (XN (by omega));rw[hβ] at g1;cases g1;rw[((Zt rfl).1 g2).1];rfl
  rw[al4 dd a0,<-hn];refine(ama L X0 r0 v (x:ByteArray).data.toList X.w hB).mono ?_;rintro e w' ⟨rfl,Ak⟩;have hY:(X.kl w' r0 none).ow r0= .box 0:=by simp [aw.kl]
  refine⟨X.kl w' r0 none,rfl,Xj how hv Ak (λk hk=>by cases hk),r0,?_,λB' df=> ?_,(λ_ id t p hm=>by simp at hm),rfl⟩
  ·exact Fu
  ·cases df;refine⟨⟨hY,⟨_,XN (Nat.lt_of_lt_of_le hB.lt Ak.size)⟩,λhm=>by cases hm⟩,λ_=>hβ⟩
 ·intro l b r b' hc;unfold ai.add at hc;rw[YD ef] at hc;exact h0 f l b r b' hc
end Go.Ref

namespace Go.Ref
open Go
variable {P:Program} {R S:Type}
structure aL(P:Program)(T:ai):Prop where
 mix:P.follows .mixedOrders=true
 nat:T.Nat
 xh:∀f,dh P T f
noncomputable abbrev cd (fn:Func):Code:=fn.body.getD .skip
noncomputable abbrev wy (E:Env) (T:ai) (R:Type) (k:Nat) (fn:Func) (l:List SV) (b:Option bH) (K:List SV->Option bH->Option R):Option R:=kq E (T R) k fn (cd fn) l b K
abbrev KF(R:Type):Type:=List SV->Option bH->Option R
abbrev KX(R:Type):Type:=Ex->State->Option R
abbrev eG(β:Type):Type 1:=(R:Type)->β->KF R->Option R
def eG.Nat{β:Type}(o:eG β):Prop:=∀(R S:Type) r (F:KF R) (G:KF S) (K:S->Option R),(∀r b,F r b=(G r b).bind K)->o R r F=(o S r G).bind K
def uz(fn:Func):Bool:= !(fn.name== "runtime.NumGoroutine")&&fn.body.isSome
def tI(x:Int):SV:= .aq (.int .i64) x []
def tU(x:Int):SV:= .aq (.int .u8) x []
def tB(x:Bool):SV:= .aq .bool x []
def tS(x:ByteArray):SV:= .aq .str x []
abbrev iA(x:Int):List SV:=[tI x]
abbrev uA(x:Int):List SV:=[tU x]
abbrev bA(x:Bool):List SV:=[tB x]
abbrev sA(x:ByteArray):List SV:=[tS x]
abbrev dA(t:Ty)(x:El t):List SV:=[.aq t x []]
abbrev dB(t:Ty)(x:El t):List SV:=[.aq t x [[]]]
abbrev pA(n:Nat)(t:Ty):List SV:=[.ptr n t []]
abbrev oA(t:Ty)(x:El t):Option bH:=some ⟨t,x,[]⟩
abbrev oB(t:Ty)(x:El t):Option bH:=some ⟨t,x,[[]]⟩
def pth:Nat->Nat->List Nat->List Nat
 |0,_,l=>l
 |k+1,n,l=>bif zaL n 1 then l else pth k (n/2) (n % 2::l)
noncomputable def sq (f:Func) (p:Nat):Code:=sub (pth 300 p []) (cd f)
noncomputable def lq {R:Type} (E:Env) (T:ai) (kk:Nat) (f:Func) (p k:Nat) (J:KX R) (s:State):Option R:=gS (ev E (T R) kk (sq f p)) (E.dy (pY (sq f p))) (E.jT (pY (sq f p))) k s J
noncomputable def lk {R:Type} (E:Env) (T:ai) (kk:Nat) (f:Func) (p k:Nat) (J:KX R):KX R:=R0 (ev E (T R) kk (sq f p)) (E.dy (pY (sq f p))) (E.jT (pY (sq f p))) k J
noncomputable def sk {R:Type} (E:Env) (T:ai) (kk:Nat) (f:Func) (p:Nat) (K:KX R):KX R:=aaK E (T R) kk (sq f p) K
noncomputable def fk {R:Type} (E:Env) (f:Func) (b:Option bH) (K:KF R):KX R:=aaJ E f.results.toList b K
def kp:List (Nat×List Nat)->Nat->List Nat
 | [],_=>[]
 |(a,l)::r,i=>bif xz i a then l else kp r i
theorem LL{kk:Nat}(hF:kk=af){R:Type}(f:Unit->Option R):bq kk f=f ():=by rw[hF];exact afc f
theorem av:(∀{R S:Type} (c:Bool) (x y:Option S) (F:S->Option R),(bif c then x else y).bind F=bif c then x.bind F else y.bind F)/\(∀{R S:Type} (i:Int) (n:Nat) (x:Option S) (F:S->Option R),(zd i n x).bind F=zd i n (x.bind F))/\
 (∀{R S:Type} (F:S->Option R),(.none:Option S).bind F= .none)/\(∀{R S:Type} (x:S) (F:S->Option R),(some x).bind F=F x)/\(∀{R S α β:Type} (f:α->Option S) (g:β->Option S) (e:α⊕β) (F:S->Option R),(GB f g e).bind F=GB (λx=>(f x).bind F) (λx=>(g x).bind F) e)/\
 (∀{R S α:Type} (x:Option α) (f:α->Option S) (F:S->Option R),(x.bind f).bind F=x.bind λy=>(f y).bind F)/\(∀{α β γ:Type} (f:α->γ) (g:β->γ) (x:α),GB f g (.inl x)=f x)/\(∀{α β γ:Type} (f:α->γ) (g:β->γ) (x:β),GB f g (.inr x)=g x):=
 ⟨zlf,aes,aiE,zc,amZ,ahN,λ_ _ _=>rfl,λ_ _ _=>rfl⟩
theorem aL.none(hm:P.follows .mixedOrders=true):aL P ai.none:=⟨hm,z226,aiF⟩
theorem aL.add{E:Env}{T:ai}(h:aL P T)(hE:ak P E){n:FuncId}{ps:List Ty}{g:Pure}{fn:Func}(iJ:P.funcs[n]? =some fn)(hc:uz fn=true)(hg:g.Nat)
 (h1:∀(l:List SV) (b:Option bH) (r:List SV) (b':Option bH),g (List SV×Option bH) (aR ps l) b (λr b=>some (r,b))=some (r,b')->∃k,kq E (T (List SV×Option bH)) k fn (cd fn) l b (λr b=>some (r,b))=some (r,b')):aL P (T.add n ps g):=by
 obtain⟨h2,h3⟩:=Bool.and_eq_true_iff.1 hc;refine⟨h.mix,zsf h.nat hg,al2 hE h.mix h.nat h.xh iJ (by simpa using h2) ?_ h1⟩;cases e:fn.body with
 |none=>rw[e] at h3;cases h3
 |some c=>simp [cd,e]
def G1{β:Type}(f:Option β)(o:eG β):Pure:=λR l b K=>gT b (gF l (f.bind λr=>o R r K))
theorem NH(E:Env){T:ai}{n:FuncId}{fn:Func}{β:Type}{f:Option β}{o:eG β}(m:(R:Type)->Nat->KF R->Option R)(h0:aL P T)(hE:ak P E)(iJ:P.funcs[n]? =some fn)
 (h2:∀(R:Type) kk (e:kk=af) (K:KF R),m R kk K=f.bind λr=>o R r K) (hc:uz fn=true:=by kernel_rfl) (hp:E.ps=[]:=by exact rfl) (ho:o.Nat:=by exact λ_ _ _ _ _ _ h=>h _ _) (h1:∀(R:Type) k (K:KF R),wy E T R k fn [] .none K=m R k K:=by intros;kernel_rfl):aL P (T.add n [] (G1 f o)):=
 h0.add hE iJ hc (λR S l b F G K h=>L5 (zky (sM λ_=>ho _ _ _ _ _ _ h))) λl b r b' h=>by obtain⟨rfl,h5⟩:=L0 h;obtain⟨h3,h4⟩:=AR hp h5;exact⟨af,(h4 _ _ _ _ _ _).trans (((h1 _ _ _).trans (h2 _ _ rfl _)).trans h3)⟩
def cO(t:Ty){β:Type}(f:El t->Option β)(o:eG β):Pure:=λR l b K=>gT b (gG t l (λx=>(f x).bind λr=>o R r K))
theorem cP(E:Env){T:ai}{n:FuncId}{fn:Func}{t:Ty}{β:Type}{f:El t->Option β}{o:eG β}(m:(R:Type)->Nat->El t->KF R->Option R)(h0:aL P T)(hE:ak P E)(iJ:P.funcs[n]? =some fn)
 (h2:∀(R:Type) kk (e:kk=af) x (K:KF R),m R kk x K=(f x).bind λr=>o R r K) (hc:uz fn=true:=by kernel_rfl) (hp:E.ps=[t]:=by exact rfl) (ho:o.Nat:=by exact λ_ _ _ _ _ _ h=>h _ _) (h1:∀(R:Type) k x (K:KF R),wy E T R k fn [.aq t x []] .none K=m R k x K:=by intros;kernel_rfl):aL P (T.add n [t] (cO t f o)):=
 h0.add hE iJ hc (λR S l b F G K h=>L5 (zkz λ_=>sM λ_=>ho _ _ _ _ _ _ h)) λl b r b' h=>by obtain⟨rfl,h5⟩:=L0 h;obtain⟨x,h3,h4⟩:=R8 hp h5;exact⟨af,(h4 _ _ _ _ _ _).trans (((h1 _ _ x _).trans (h2 _ _ rfl x _)).trans h3)⟩
def cY(t u:Ty){β:Type}(f:El t->El u->Option β)(o:eG β):Pure:=λR l b K=>gT b (fW t u l (λx y=>(f x y).bind λr=>o R r K))
theorem dc(E:Env){T:ai}{n:FuncId}{fn:Func}{t u:Ty}{β:Type}{f:El t->El u->Option β}{o:eG β}(m:(R:Type)->Nat->El t->El u->KF R->Option R)(h0:aL P T)(hE:ak P E)(iJ:P.funcs[n]? =some fn)
 (h2:∀(R:Type) kk (e:kk=af) x y (K:KF R),m R kk x y K=(f x y).bind λr=>o R r K) (hc:uz fn=true:=by kernel_rfl) (hp:E.ps=[t,u]:=by exact rfl) (ho:o.Nat:=by exact λ_ _ _ _ _ _ h=>h _ _) (h1:∀(R:Type) k x y (K:KF R),wy E T R k fn [.aq t x [],.aq u y []] .none K=m R k x y K:=by intros;kernel_rfl):aL P (T.add n [t,u] (cY t u f o)):=
 h0.add hE iJ hc (λR S l b F G K h=>L5 (zl0 λ_ _=>sM λ_=>ho _ _ _ _ _ _ h)) λl b r b' h=>by obtain⟨rfl,h5⟩:=L0 h;obtain⟨x,y,h3,h4⟩:=lB hp h5;exact⟨af,(h4 _ _ _ _ _ _).trans (((h1 _ _ x y _).trans (h2 _ _ rfl x y _)).trans h3)⟩
def iF(t u v:Ty){β:Type}(f:El t->El u->El v->Option β)(o:eG β):Pure:=λR l b K=>gT b (iR t u v l (λx y a=>(f x y a).bind λr=>o R r K))
theorem iK(E:Env){T:ai}{n:FuncId}{fn:Func}{t u v:Ty}{β:Type}{f:El t->El u->El v->Option β}{o:eG β}(m:(R:Type)->Nat->El t->El u->El v->KF R->Option R)(h0:aL P T)(hE:ak P E)(iJ:P.funcs[n]? =some fn)
 (h2:∀(R:Type) kk (e:kk=af) x y a (K:KF R),m R kk x y a K=(f x y a).bind λr=>o R r K) (hc:uz fn=true:=by kernel_rfl) (hp:E.ps=[t,u,v]:=by exact rfl) (ho:o.Nat:=by exact λ_ _ _ _ _ _ h=>h _ _) (h1:∀(R:Type) k x y a (K:KF R),wy E T R k fn [.aq t x [],.aq u y [],.aq v a []] .none K=m R k x y a K:=by intros;kernel_rfl):aL P (T.add n [t,u,v] (iF t u v f o)):=
 h0.add hE iJ hc (λR S l b F G K h=>L5 (TC λ_ _ _=>sM λ_=>ho _ _ _ _ _ _ h)) λl b r b' h=>by obtain⟨rfl,h5⟩:=L0 h;obtain⟨x,y,a,h3,h4⟩:=acG hp h5;exact⟨af,(h4 _ _ _ _ _ _).trans (((h1 _ _ x y a _).trans (h2 _ _ rfl x y a _)).trans h3)⟩
def AW(t u v w:Ty){β:Type}(f:El t->El u->El v->El w->Option β)(o:eG β):Pure:=λR l b K=>gT b (mf t u v w l (λx y a b=>(f x y a b).bind λr=>o R r K))
theorem Fa(E:Env){T:ai}{n:FuncId}{fn:Func}{t u v w:Ty}{β:Type}{f:El t->El u->El v->El w->Option β}{o:eG β}(m:(R:Type)->Nat->El t->El u->El v->El w->KF R->Option R)(h0:aL P T)(hE:ak P E)(iJ:P.funcs[n]? =some fn)
 (h2:∀(R:Type) kk (e:kk=af) x y a b (K:KF R),m R kk x y a b K=(f x y a b).bind λr=>o R r K) (hc:uz fn=true:=by kernel_rfl) (hp:E.ps=[t,u,v,w]:=by exact rfl) (ho:o.Nat:=by exact λ_ _ _ _ _ _ h=>h _ _) (h1:∀(R:Type) k x y a b (K:KF R),wy E T R k fn [.aq t x [],.aq u y [],.aq v a [],.aq w b []] .none K=m R k x y a b K:=by intros;kernel_rfl):aL P (T.add n [t,u,v,w] (AW t u v w f o)):=
 h0.add hE iJ hc (λR S l b F G K h=>L5 (ahK λ_ _ _ _=>sM λ_=>ho _ _ _ _ _ _ h)) λl b r b' h=>by obtain⟨rfl,h5⟩:=L0 h;obtain⟨x,y,a,b,h3,h4⟩:=acH hp h5;exact⟨af,(h4 _ _ _ _ _ _).trans (((h1 _ _ x y a b _).trans (h2 _ _ rfl x y a b _)).trans h3)⟩
def NF(T0:Ty)(wn:List (List Nat)){β:Type}(f:El T0->Option β)(o:eG β):Pure:=λR l b K=>kj T0 wn l b λz l=>gF l ((f z).bind λr=>o R r K)
theorem sb0(E:Env){T:ai}{n:FuncId}{fn:Func}{T0:Ty}{wn:List (List Nat)}{β:Type}{f:El T0->Option β}{o:eG β}(m:(R:Type)->Nat->El T0->KF R->Option R)(h0:aL P T)(hE:ak P E)(iJ:P.funcs[n]? =some fn)
 (h2:∀(R:Type) kk (e:kk=af) z (K:KF R),m R kk z K=(f z).bind λr=>o R r K) (hc:uz fn=true:=by kernel_rfl) (hp:E.ps=[.unit]:=by exact rfl) (ho:o.Nat:=by exact λ_ _ _ _ _ _ h=>h _ _) (h1:∀(R:Type) k z (K:KF R),wy E T R k fn [.ptr 0 T0 []] (some ⟨T0,z,wn⟩) K=m R k z K:=by intros;kernel_rfl):aL P (T.add n [.unit] (NF T0 wn f o)):=
 h0.add hE iJ hc (λR S l b F G K h=>NW λ_ _=>zky (sM λ_=>ho _ _ _ _ _ _ h)) λl b r b' h=>by unfold NF at h;obtain⟨z,q,rfl,rfl,h5⟩:=AU h;obtain⟨h3,h4⟩:=R9 hp h5;exact⟨af,(h4 _ _ _ _ _ _).trans (((h1 _ _ z _).trans (h2 _ _ rfl z _)).trans h3)⟩
def G0(T0:Ty)(wn:List (List Nat))(t:Ty){β:Type}(f:El T0->El t->Option β)(o:eG β):Pure:=λR l b K=>kj T0 wn l b λz l=>gG t l (λx=>(f z x).bind λr=>o R r K)
theorem Sl(E:Env){T:ai}{n:FuncId}{fn:Func}{T0:Ty}{wn:List (List Nat)}{t:Ty}{β:Type}{f:El T0->El t->Option β}{o:eG β}(m:(R:Type)->Nat->El T0->El t->KF R->Option R)(h0:aL P T)(hE:ak P E)(iJ:P.funcs[n]? =some fn)
 (h2:∀(R:Type) kk (e:kk=af) z x (K:KF R),m R kk z x K=(f z x).bind λr=>o R r K) (hc:uz fn=true:=by kernel_rfl) (hp:E.ps=[.unit,t]:=by exact rfl) (ho:o.Nat:=by exact λ_ _ _ _ _ _ h=>h _ _) (h1:∀(R:Type) k z x (K:KF R),wy E T R k fn [.ptr 0 T0 [],.aq t x []] (some ⟨T0,z,wn⟩) K=m R k z x K:=by intros;kernel_rfl):aL P (T.add n [.unit,t] (G0 T0 wn t f o)):=
 h0.add hE iJ hc (λR S l b F G K h=>NW λ_ _=>zkz λ_=>sM λ_=>ho _ _ _ _ _ _ h) λl b r b' h=>by unfold G0 at h;obtain⟨z,q,rfl,rfl,h5⟩:=AU h;obtain⟨x,h3,h4⟩:=Sa hp h5;exact⟨af,(h4 _ _ _ _ _ _).trans (((h1 _ _ z x _).trans (h2 _ _ rfl z x _)).trans h3)⟩
def pb2(T0:Ty)(wn:List (List Nat))(t u:Ty){β:Type}(f:El T0->El t->El u->Option β)(o:eG β):Pure:=λR l b K=>kj T0 wn l b λz l=>fW t u l (λx y=>(f z x y).bind λr=>o R r K)
theorem sb2(E:Env){T:ai}{n:FuncId}{fn:Func}{T0:Ty}{wn:List (List Nat)}{t u:Ty}{β:Type}{f:El T0->El t->El u->Option β}{o:eG β}(m:(R:Type)->Nat->El T0->El t->El u->KF R->Option R)(h0:aL P T)(hE:ak P E)(iJ:P.funcs[n]? =some fn)
 (h2:∀(R:Type) kk (e:kk=af) z x y (K:KF R),m R kk z x y K=(f z x y).bind λr=>o R r K) (hc:uz fn=true:=by kernel_rfl) (hp:E.ps=[.unit,t,u]:=by exact rfl) (ho:o.Nat:=by exact λ_ _ _ _ _ _ h=>h _ _) (h1:∀(R:Type) k z x y (K:KF R),wy E T R k fn [.ptr 0 T0 [],.aq t x [],.aq u y []] (some ⟨T0,z,wn⟩) K=m R k z x y K:=by intros;kernel_rfl):aL P (T.add n [.unit,t,u] (pb2 T0 wn t u f o)):=
 h0.add hE iJ hc (λR S l b F G K h=>NW λ_ _=>zl0 λ_ _=>sM λ_=>ho _ _ _ _ _ _ h) λl b r b' h=>by unfold pb2 at h;obtain⟨z,q,rfl,rfl,h5⟩:=AU h;obtain⟨x,y,h3,h4⟩:=Sb hp h5;exact⟨af,(h4 _ _ _ _ _ _).trans (((h1 _ _ z x y _).trans (h2 _ _ rfl z x y _)).trans h3)⟩
def pb3(T0:Ty)(wn:List (List Nat))(t u v:Ty){β:Type}(f:El T0->El t->El u->El v->Option β)(o:eG β):Pure:=λR l b K=>kj T0 wn l b λz l=>iR t u v l (λx y a=>(f z x y a).bind λr=>o R r K)
theorem sb3(E:Env){T:ai}{n:FuncId}{fn:Func}{T0:Ty}{wn:List (List Nat)}{t u v:Ty}{β:Type}{f:El T0->El t->El u->El v->Option β}{o:eG β}(m:(R:Type)->Nat->El T0->El t->El u->El v->KF R->Option R)(h0:aL P T)(hE:ak P E)(iJ:P.funcs[n]? =some fn)
 (h2:∀(R:Type) kk (e:kk=af) z x y a (K:KF R),m R kk z x y a K=(f z x y a).bind λr=>o R r K) (hc:uz fn=true:=by kernel_rfl) (hp:E.ps=[.unit,t,u,v]:=by exact rfl) (ho:o.Nat:=by exact λ_ _ _ _ _ _ h=>h _ _) (h1:∀(R:Type) k z x y a (K:KF R),wy E T R k fn [.ptr 0 T0 [],.aq t x [],.aq u y [],.aq v a []] (some ⟨T0,z,wn⟩) K=m R k z x y a K:=by intros;kernel_rfl):aL P (T.add n [.unit,t,u,v] (pb3 T0 wn t u v f o)):=
 h0.add hE iJ hc (λR S l b F G K h=>NW λ_ _=>TC λ_ _ _=>sM λ_=>ho _ _ _ _ _ _ h) λl b r b' h=>by unfold pb3 at h;obtain⟨z,q,rfl,rfl,h5⟩:=AU h;obtain⟨x,y,a,h3,h4⟩:=Sc hp h5;exact⟨af,(h4 _ _ _ _ _ _).trans (((h1 _ _ z x y a _).trans (h2 _ _ rfl z x y a _)).trans h3)⟩
def pz(t pt bt:Ty)(wn:List (List Nat)){β:Type}(f:El t->El bt->Option β)(o:eG β):Pure:=λR l b K=>me t pt bt wn l b λx y=>(f x y).bind λr=>o R r K
theorem sz(E:Env){T:ai}{n:FuncId}{fn:Func}{t pt bt:Ty}{wn:List (List Nat)}{β:Type}{f:El t->El bt->Option β}{o:eG β}(m:(R:Type)->Nat->El t->El bt->KF R->Option R)(h0:aL P T)(hE:ak P E)(iJ:P.funcs[n]? =some fn)
 (h2:∀(R:Type) kk (e:kk=af) x y (K:KF R),m R kk x y K=(f x y).bind λr=>o R r K) (hc:uz fn=true:=by kernel_rfl) (hp:E.ps=[t,.unit]:=by exact rfl) (ho:o.Nat:=by exact λ_ _ _ _ _ _ h=>h _ _) (h1:∀(R:Type) k x y (K:KF R),wy E T R k fn [.aq t x [],.ptr 0 pt []] (some ⟨bt,y,wn⟩) K=m R k x y K:=by intros;kernel_rfl):aL P (T.add n [t,.unit] (pz t pt bt wn f o)):=
 h0.add hE iJ hc (λR S l b F G K h=>ahJ λ_ _=>sM λ_=>ho _ _ _ _ _ _ h) λl b r b' h=>by obtain⟨x,y,rfl,h3,h4⟩:=Se hp h;exact⟨af,(h4 _ _ _ _ _ _).trans (((h1 _ _ x y _).trans (h2 _ _ rfl x y _)).trans h3)⟩
def pv(t u v w:Ty){β:Type}(f:El t->El u->El v->El w->Option β)(o:eG β):Pure:=λR l b K=>gT b (OX t u v w l (λx y a b=>(f x y a b).bind λr=>o R r K))
theorem sv(E:Env){T:ai}{n:FuncId}{fn:Func}{t u v w:Ty}{β:Type}{f:El t->El u->El v->El w->Option β}{o:eG β}(m:(R:Type)->Nat->El t->El u->El v->El w->KF R->Option R)(h0:aL P T)(hE:ak P E)(iJ:P.funcs[n]? =some fn)
 (h2:∀(R:Type) kk (e:kk=af) x y a b (K:KF R),m R kk x y a b K=(f x y a b).bind λr=>o R r K) (hc:uz fn=true:=by kernel_rfl) (hp:E.ps=[t,u,.unit,.unit]:=by exact rfl) (ho:o.Nat:=by exact λ_ _ _ _ _ _ h=>h _ _) (h1:∀(R:Type) k x y a b (K:KF R),wy E T R k fn [.aq t x [],.aq u y [],.view v a,.view w b] .none K=m R k x y a b K:=by intros;kernel_rfl):aL P (T.add n [t,u,.unit,.unit] (pv t u v w f o)):=
 h0.add hE iJ hc (λR S l b F G K h=>L5 (aeK λ_ _ _ _=>sM λ_=>ho _ _ _ _ _ _ h)) λl b r b' h=>by unfold pv at h;obtain⟨rfl,h5⟩:=L0 h;obtain⟨x,y,a,b,h3,h4⟩:=Sd hp h5;exact⟨af,(h4 _ _ _ _ _ _).trans (((h1 _ _ x y a b _).trans (h2 _ _ rfl x y a b _)).trans h3)⟩
end Go.Ref

namespace bz
open Go.IntKind renaming wrap->zW,i64->zI,u8->zU
open Go Go.Ref
abbrev tm:Type:=(ByteArray×Nat)
abbrev jy:Type:=(Int×Int×Int)
abbrev Ej:Type:=(ByteArray×Int)
abbrev Nl:Type:=(Int×ByteArray)
abbrev F6:Type:=(List (List Int))
abbrev iH:Type:=(ByteArray×Bool)
abbrev aH:Type:=(Int×Int×Unit)
abbrev QH:Type:=(Int×Bool×Int)
abbrev QI:Type:=(List (Int×Bool))
abbrev jM:Type:=(ByteArray×Int×Int)
abbrev aT:Type:=(Int×ByteArray×Unit)
abbrev lN:Type:=(List iH)
abbrev dK:Type:=(ByteArray×ByteArray×Unit)
abbrev vZ:Type:=(ByteArray×ByteArray×Bool)
abbrev al:Type:=(List aT)
abbrev ar:Type:=(Int×Bool×(List Int)×Unit)
abbrev aA:Type:=(Int×Int×Int×Int×Int×Unit)
abbrev im:Type:=(Int×Int×ByteArray×Int×Unit)
abbrev bd:Type:=(List dK)
abbrev tn:Type:=(Int×ar)
abbrev kU:Type:=(List aA)
abbrev bP:Type:=(List im)
abbrev kh:Type:=(al×Int×Int)
abbrev ag:Type:=(ByteArray×al×Unit)
abbrev dt:Type:=((List ByteArray)×(List Int)×(List Bool)×Int×Unit)
abbrev ah:Type:=(Int×Int×kU×Unit)
abbrev wg:Type:=(List ah)
abbrev wh:Type:=(ag×aH)
abbrev aN:Type:=(Int×Int×Int×ByteArray×bd×Unit)
abbrev tu:Type:=(al×Int×Int×al)
abbrev cJ:Type:=(List aN)
abbrev pE:Type:=(ag×aH×ag)
abbrev az:Type:=(bd×cJ×Unit)
abbrev ki:Type:=(ByteArray×Int×ag×aH×ag)
abbrev ay:Type:=(ah×az×(List Int)×al×Unit)
abbrev tv:Type:=(ByteArray×al×az×ag×aH)
abbrev tw:Type:=(List ay)
abbrev mR:Type:=(az×ah×ah)
abbrev ax:Type:=(tw×Int×Unit)
abbrev mS:Type:=(Int×Int×Int×az×ah×ah)
def zrn{R:Type}(a:ByteArray)(b:Int)(c:ByteArray->Int->Option R):Option R:=
 c a b
def zro{R:Type}(a:ByteArray)(b:Int)(c:ByteArray->Int->Option R)(d:ByteArray->Option R):Option R:=
 bif 0<(a.size:Int) then zd (zW zI ((a.size:Int)-1)) a.size (bif ze a (zW zI ((a.size:Int)-(1:Int))).toNat=b then bif 0<=zW zI ((a.size:Int)-1) then bif zW zI ((a.size:Int)-1)<=(a.size:Int) then c (a.extract 0 (zW zI ((a.size:Int)-(1:Int))).toNat) b else none else none else d a) else d a
def zrp{R:Type}(a:ByteArray)(b:ByteArray->Option R):Option R:=
 b a
def Og:Nat->ByteArray->Int->Option ByteArray
 |0,_,_=>none
 |k+1,v0,v1=>zro v0 v1 (λa0 a1=>Og k a0 a1) (λa0=>some a0)
def yJ(a:ByteArray)(b:Int):Option ByteArray:=
 zrn a b (λa0 a1=>(Og af a0 a1).bind λe=>zrp e (λa0=>some a0))
def zrj{R:Type}(a:ByteArray)(b:Int)(c:ByteArray->Int->Option R):Option R:=
 c a b
def zrk{R:Type}(a:ByteArray)(b:Int)(c:ByteArray->Int->Option R)(d:ByteArray->Option R):Option R:=
 bif 0<(a.size:Int) then zd 0 a.size (bif ze a ((0:Int)).toNat=b then bif 1<=(a.size:Int) then c (a.extract ((1:Int)).toNat a.size) b else none else d a) else d a
def zrl{R:Type}(a:ByteArray)(b:ByteArray->Option R):Option R:=
 b a
def Oe:Nat->ByteArray->Int->Option ByteArray
 |0,_,_=>none
 |k+1,v0,v1=>zrk v0 v1 (λa0 a1=>Oe k a0 a1) (λa0=>some a0)
def yI(a:ByteArray)(b:Int):Option ByteArray:=
 zrj a b (λa0 a1=>(Oe af a0 a1).bind λe=>zrl e (λa0=>some a0))
def zrh{R:Type}(a b:ByteArray)(c:ByteArray->Option R):Option R:=
 bif a=bs [] then c a else bif b=bs [] then c a else bif(b.size:Int)=1 then zd 0 b.size (bif ze b ((0:Int)).toNat<128 then zd 0 b.size ((yJ a (ze b ((0:Int)).toNat)).bind λr1=>zd 0 b.size ((yI r1 (ze b ((0:Int)).toNat)).bind λr2=>c r2)) else none) else none
def vN(a b:ByteArray):Option ByteArray:=
 zrh a b (λa0=>some a0)
def zyi{R:Type}(a:ByteArray)(b:tm->Option R):Option R:=
 b (a,0)
def zyj{R:Type}(a:tm)(b:Bool->Option R)(c:tm->Option R)(d:Option R):Option R:=
 bif a.2<a.1.size then bif(((zbQ a.1 a.2).1:Nat):Int)<48 then b false else bif 57<(((zbQ a.1 a.2).1:Nat):Int) then b false else c (a.1,a.2+(zbQ a.1 a.2).2) else d
def Ky{R:Type}(a:Bool)(b:Bool->Option R):Option R:=
 b a
def Kz{R:Type}(a:Bool->Option R):Option R:=
 a true
def OB:Nat->tm->Option (Sum Bool Unit)
 |0,_=>none
 |k+1,v0=>zyj v0 (λa0=>some (.inl a0)) (λa0=>OB k a0) (some (.inr ()))
def CZ(a:ByteArray):Option Bool:=
 zyi a (λa0=>(OB af a0).bind λe=>GB (λ(we:Bool)=>Ky we (λa0=>some a0)) (λ(we:Unit)=>Kz (λa0=>some a0)) e)
def zyl{R:Type}(a:ByteArray)(b:Int->Bool->Option R)(c:Int->tm->Option R):Option R:=
 bif a=bs [] then b 0 false else bif 18<(a.size:Int) then b 0 false else(CZ a).bind λr1=>bif !r1 then b 0 false else c 0 (a,0)
def zym{R:Type}(a:Int)(b:tm)(c:Int->tm->Option R)(d:Int->Option R):Option R:=
 bif b.2<b.1.size then c (zW zI (zW zI (10*a)+zW zI (IntKind.i32.wrap ((((zbQ b.1 b.2).1:Nat):Int)-48)))) (b.1,b.2+(zbQ b.1 b.2).2) else d a
def KA{R:Type}(a:Int)(b:Int->Bool->Option R):Option R:=
 b a true
def OC:Nat->Int->tm->Option Int
 |0,_,_=>none
 |k+1,v0,v1=>zym v0 v1 (λa0 a1=>OC k a0 a1) (λa0=>some a0)
def C1(a:ByteArray):Option (Int×Bool):=
 zyl a (λa0 a1=>some (a0,a1)) (λa0 a1=>(OC af a0 a1).bind λe=>KA e (λa0 a1=>some (a0,a1)))
def zyp{R:Type}(a b:Int)(c:ByteArray->Bool->Option R)(d:Int->Nat->Int->Nat->(List Int)->Option R):Option R:=
 bif a<0 then c (bs []) false else bif b<1 then c (bs []) false else bif 18<b then c (bs []) false else bif b=b then bif 0<=b then bif b*1<=140737488355328 then d a b.toNat (zW zI (b-1)) b.toNat (so b.toNat 0) else none else none else none
def zk0{R:Type}(a:Int)(b:Nat)(c:Int)(d:Nat)(e:(List Int))(f:Int->Nat->Int->Nat->(List Int)->Option R)(g:Int->Nat->Nat->(List Int)->Option R):Option R:=
 bif 0<=c then zd c b (bif zaL (c.toNat+1) (aa e) then f (zW zI (zaf a 10)) b (zW zI (c-1)) d (za1 e c.toNat (zW zU (zW zI (48+zaN a 10)))) else none) else g a b d e
def zyq{R:Type}(a:Int)(b c:Nat)(d:(List Int))(e:ByteArray->Bool->Option R):Option R:=
 bif 0<a then e (bs []) false else bif xz b (aa d) then e (strOf d) true else none
def MS:Nat->Int->Nat->Int->Nat->(List Int)->Option (Int×Nat×Nat×(List Int))
 |0,_,_,_,_,_=>none
 |k+1,v0,v1,v2,v3,v4=>zk0 v0 v1 v2 v3 v4 (λa0 a1 a2 a3 a4=>MS k a0 a1 a2 a3 a4) (λa0 a1 a2 a3=>some (a0,a1,a2,a3))
def Pj(a b:Int):Option iH:=
 zyp a b (λa0 a1=>some (a0,a1)) (λa0 a1 a2 a3 a4=>(MS af a0 a1 a2 a3 a4).bind λe=>zyq e.1 e.2.1 e.2.2.1 e.2.2.2 (λa0 a1=>some (a0,a1)))
def zyn{R:Type}(a:ByteArray)(b:Int)(c:ByteArray->Bool->Option R):Option R:=
 bif a=bs [] then c (bs []) false else bif 999<(a.size:Int) then c (bs []) false else(CZ a).bind λr1=>bif !r1 then c (bs []) false else bif b<1 then c (bs []) false else bif 999<b then c (bs []) false else bif(a.size:Int)<=b then(strings_Repeat (bs [48]) (zW zI (b-(a.size:Int)))).bind λr2=>bif r2.size+a.size<=9223372036854775807 then c (r2++a) true else none else bif 0<=zW zI ((a.size:Int)-b) then bif zW zI ((a.size:Int)-b)<=(a.size:Int) then(vN (a.extract 0 (zW zI ((a.size:Int)-b)).toNat) (bs [48])).bind λr3=>bif !decide (r3=bs []) then c (bs []) false else bif 0<=zW zI ((a.size:Int)-b) then bif zW zI ((a.size:Int)-b)<=(a.size:Int) then c (a.extract (zW zI ((a.size:Int)-b)).toNat a.size) true else none else none else none else none
def Ph(a:ByteArray)(b:Int):Option iH:=
 zyn a b (λa0 a1=>some (a0,a1))
def qq{R:Type}(a:Int)(b:Int->Option R):Option R:=
 bif a<1 then b 0 else b (zW zI (zW zI (zaf a 2)+zaN a 2))
def Q2(a:Int):Option Int:=
 qq a (λa0=>some a0)
def qb{R:Type}(a:ByteArray)(b:Int)(c:ByteArray->Int->Int->Option R)(d:ByteArray->Int->(List Int)->Int->Int->Option R):Option R:=
 bif b<0 then c (bs []) 1 0 else bif 999<b then c (bs []) 1 0 else(Q2 b).bind λr1=>bif(a.size:Int)<r1 then c (bs []) 2 (a.size:Int) else bif 0<=zW zI (b+1) then bif zW zI (b+1)*1<=140737488355328 then(Q2 b).bind λr2=>d a b [] r2 0 else none else none
def nr{R:Type}(a:ByteArray)(b:Int)(c:(List Int))(d e:Int)(f:Int->ByteArray->Int->Int->(List Int)->Option R)(g:ByteArray->Int->(List Int)->Int->Int->Option R)(h:Int->(List Int)->Option R):Option R:=
 bif e<d then zd e a.size (zd e a.size (bif e=0 then bif !decide (zaN b 2=0) then bif !decide (zal (ze a e.toNat) (2^min ((4:Int)).toNat 8)=0) then f b (bs []) 4 0 c else bif 9<zal (ze a e.toNat) (2^min ((4:Int)).toNat 8) then f b (bs []) 3 e c else bif 9<aU .and .u8 (ze a e.toNat) 15 then f b (bs []) 3 e c else bif(aa c+aa ([(zW zU ((48:Int)+zal (ze a e.toNat) (2^min ((4:Int)).toNat 8))),(zW zU ((48:Int)+aU .and .u8 (ze a e.toNat) (15:Int)))]:List Int))*1<=140737488355328 then g a b (c++([(zW zU (48+zal (ze a e.toNat) (2^min ((4:Int)).toNat 8))),(zW zU (48+aU .and .u8 (ze a e.toNat) 15))]:List Int)) d (zW zI (e+1)) else none else bif 9<zal (ze a e.toNat) (2^min ((4:Int)).toNat 8) then f b (bs []) 3 e c else bif 9<aU .and .u8 (ze a e.toNat) 15 then f b (bs []) 3 e c else bif(aa c+aa ([(zW zU ((48:Int)+zal (ze a e.toNat) (2^min ((4:Int)).toNat 8))),(zW zU ((48:Int)+aU .and .u8 (ze a e.toNat) (15:Int)))]:List Int))*1<=140737488355328 then g a b (c++([(zW zU (48+zal (ze a e.toNat) (2^min ((4:Int)).toNat 8))),(zW zU (48+aU .and .u8 (ze a e.toNat) 15))]:List Int)) d (zW zI (e+1)) else none else bif 9<zal (ze a e.toNat) (2^min ((4:Int)).toNat 8) then f b (bs []) 3 e c else bif 9<aU .and .u8 (ze a e.toNat) 15 then f b (bs []) 3 e c else bif(aa c+aa ([(zW zU ((48:Int)+zal (ze a e.toNat) (2^min ((4:Int)).toNat 8))),(zW zU ((48:Int)+aU .and .u8 (ze a e.toNat) (15:Int)))]:List Int))*1<=140737488355328 then g a b (c++([(zW zU (48+zal (ze a e.toNat) (2^min ((4:Int)).toNat 8))),(zW zU (48+aU .and .u8 (ze a e.toNat) 15))]:List Int)) d (zW zI (e+1)) else none)) else h b c
def uT{R:Type}(a:Int)(b:ByteArray)(c d:Int)(e:(List Int))(f:ByteArray->Int->Int->Option R):Option R:=
 f b c d
def qc{R:Type}(a:Int)(b:(List Int))(c:ByteArray->Int->Int->Option R):Option R:=
 bif 0<=zaN a 2 then bif zaN a 2<=(((aa b):Nat):Int) then c (strOf (zac (zaN a (2:Int)).toNat (It (aa b) b))) 0 0 else none else none
def jJ:Nat->ByteArray->Int->(List Int)->Int->Int->Option (Sum (Int×ByteArray×Int×Int×(List Int)) (Int×(List Int)))
 |0,_,_,_,_,_=>none
 |k+1,v0,v1,v2,v3,v4=>nr v0 v1 v2 v3 v4 (λa0 a1 a2 a3 a4=>some (.inl (a0,a1,a2,a3,a4))) (λa0 a1 a2 a3 a4=>jJ k a0 a1 a2 a3 a4) (λa0 a1=>some (.inr (a0,a1)))
def Q0(a:ByteArray)(b:Int):Option jM:=
 qb a b (λa0 a1 a2=>some (a0,a1,a2)) (λa0 a1 a2 a3 a4=>(jJ af a0 a1 a2 a3 a4).bind λe=>GB (λ(we:(Int×ByteArray×Int×Int×(List Int)))=>uT we.1 we.2.1 we.2.2.1 we.2.2.2.1 we.2.2.2.2 (λa0 a1 a2=>some (a0,a1,a2))) (λ(we:(Int×(List Int)))=>qc we.1 we.2 (λa0 a1 a2=>some (a0,a1,a2))) e)
def lZ{R:Type}(a:ByteArray)(b:ByteArray->Bool->Option R)(c:ByteArray->(List Int)->Int->Option R):Option R:=
 bif 999<(a.size:Int) then b (bs []) false else(CZ a).bind λr1=>bif !r1 then b (bs []) false else bif !decide (zaN (a.size:Int) 2=0) then bif(bs [48]).size+a.size<=9223372036854775807 then bif 0<=zW zI (zaf ((bs [48]++a).size:Int) 2) then bif zW zI (zaf ((bs [48]++a).size:Int) 2)*1<=140737488355328 then c (bs [48]++a) [] 0 else none else none else none else bif 0<=zW zI (zaf (a.size:Int) 2) then bif zW zI (zaf (a.size:Int) 2)*1<=140737488355328 then c a [] 0 else none else none
theorem aeF{R S:Type}(F:R->Option S)(a)(b)(c):(lZ a b c).bind F=lZ a (λa0 a1=>(b a0 a1).bind F) (λa0 a1 a2=>(c a0 a1 a2).bind F):=by simp only[lZ,av]
def nC{R:Type}(a:ByteArray)(b:(List Int))(c:Int)(d:ByteArray->(List Int)->Int->Option R)(e:(List Int)->Option R):Option R:=
 bif c<(a.size:Int) then zd c a.size (zd (zW zI (c+1)) a.size (bif(aa b+aa ([(aU .or .u8 (zW zU (zW zU (ze a c.toNat-(48:Int))*2^min ((4:Int)).toNat 8)) (zW zU (ze a (zW zI (c+(1:Int))).toNat-(48:Int))))]:List Int))*1<=140737488355328 then d a (b++([(aU .or .u8 (zW zU (zW zU (ze a c.toNat-48)*2^min ((4:Int)).toNat 8)) (zW zU (ze a (zW zI (c+(1:Int))).toNat-48)))]:List Int)) (zW zI (c+2)) else none)) else e b
def vK{R:Type}(a:(List Int))(b:ByteArray->Bool->Option R):Option R:=
 b (strOf a) true
def kK:Nat->ByteArray->(List Int)->Int->Option (List Int)
 |0,_,_,_=>none
 |k+1,v0,v1,v2=>nC v0 v1 v2 (λa0 a1 a2=>kK k a0 a1 a2) (λa0=>some a0)
def Q1(a:ByteArray):Option iH:=
 lZ a (λa0 a1=>some (a0,a1)) (λa0 a1 a2=>(kK af a0 a1 a2).bind λe=>vK e (λa0 a1=>some (a0,a1)))
def qy{R:Type}(a:Int)(b:Int->Option R):Option R:=
 bif a<0 then b 0 else bif 65535<a then b 0 else bif 255<a then b (zW zI (zW zI (zW zI (0+1)+1)+1)) else bif 127<a then b (zW zI (zW zI (0+1)+1)) else b (zW zI (0+1))
def Q4(a:Int):Option Int:=
 qy a (λa0=>some a0)
def l4{R:Type}(a:ByteArray)(b:Int)(c:Int->Int->Int->Option R)(d:ByteArray->Int->Int->Int->Int->Int->Option R):Option R:=
 bif b<0 then c 0 0 1 else bif(a.size:Int)<b then c 0 0 1 else bif b=(a.size:Int) then c 0 0 2 else zd b a.size (bif 127<zW zI (ze a b.toNat) then bif zW zI (ze a b.toNat)=128 then c 0 0 14 else bif 130<zW zI (ze a b.toNat) then c 0 0 14 else bif zW zI ((a.size:Int)-zW zI (b+1))<zW zI (zW zI (ze a b.toNat)-128) then c 0 0 2 else d a (zW zI (b+1)) 0 (zW zI (zW zI (ze a b.toNat)-128)) (zW zI (zW zI (ze a b.toNat)-128)) 0 else bif zW zI ((a.size:Int)-zW zI (b+1))<0 then c 0 0 2 else d a (zW zI (b+1)) (zW zI (ze a b.toNat)) 0 0 0)
theorem aeG{R S:Type}(F:R->Option S)(a)(b)(c)(d):(l4 a b c d).bind F=l4 a b (λa0 a1 a2=>(c a0 a1 a2).bind F) (λa0 a1 a2 a3 a4 a5=>(d a0 a1 a2 a3 a4 a5).bind F):=by simp only[l4,av]
def l5{R:Type}(a:ByteArray)(b c d e f:Int)(g:ByteArray->Int->Int->Int->Int->Int->Option R)(h:Int->Int->Int->Option R):Option R:=
 bif f<e then zd (zW zI (b+f)) a.size (g a b (aU .or .i64 (zW zI (c*2^min ((8:Int)).toNat 64)) (zW zI (ze a (zW zI (b+f)).toNat))) d e (zW zI (f+1))) else h b c d
def l6{R:Type}(a b c:Int)(d:Int->Int->Int->Option R):Option R:=
 (Q4 b).bind λr1=>bif !decide (r1=zW zI (c+1)) then d 0 0 14 else d b (zW zI (a+c)) 0
def fy:Nat->ByteArray->Int->Int->Int->Int->Int->Option jy
 |0,_,_,_,_,_,_=>none
 |k+1,v0,v1,v2,v3,v4,v5=>l5 v0 v1 v2 v3 v4 v5 (λa0 a1 a2 a3 a4 a5=>fy k a0 a1 a2 a3 a4 a5) (λa0 a1 a2=>some (a0,a1,a2))
def Q3(a:ByteArray)(b:Int):Option jy:=
 l4 a b (λa0 a1 a2=>some (a0,a1,a2)) (λa0 a1 a2 a3 a4 a5=>(fy af a0 a1 a2 a3 a4 a5).bind λe=>l6 e.1 e.2.1 e.2.2 (λa0 a1 a2=>some (a0,a1,a2)))
abbrev zB0:ByteArray:=bs ([0,1,2,2,3,3,3,3,4,4,4,4,4,4,4,4]++so 16 5++so 32 6++so 64 7++so 128 8)
def IE{R:Type}(a:Int)(b:Int->Option R):Option R:=
 bif 4294967296<=a then bif 65536<=zal a (2^min ((32:Int)).toNat 64) then bif 256<=zal (zal a (2^min ((32:Int)).toNat 64)) (2^min ((16:Int)).toNat 64) then zd (zW zU (zal (zal (zal a (2^min ((32:Int)).toNat 64)) (2^min ((16:Int)).toNat 64)) (2^min ((8:Int)).toNat 64))) zB0.size (b (zW zI (zW zI (zW zI (32+16)+8)+zW zI (ze zB0 (zW zU (zal (zal (zal a (2^min ((32:Int)).toNat 64)) (2^min ((16:Int)).toNat 64)) (2^min ((8:Int)).toNat 64))).toNat)))) else zd (zW zU (zal (zal a (2^min ((32:Int)).toNat 64)) (2^min ((16:Int)).toNat 64))) zB0.size (b (zW zI (zW zI (32+16)+zW zI (ze zB0 (zW zU (zal (zal a (2^min ((32:Int)).toNat 64)) (2^min ((16:Int)).toNat 64))).toNat)))) else bif 256<=zal a (2^min ((32:Int)).toNat 64) then zd (zW zU (zal (zal a (2^min ((32:Int)).toNat 64)) (2^min ((8:Int)).toNat 64))) zB0.size (b (zW zI (zW zI (32+8)+zW zI (ze zB0 (zW zU (zal (zal a (2^min ((32:Int)).toNat 64)) (2^min ((8:Int)).toNat 64))).toNat)))) else zd (zW zU (zal a (2^min ((32:Int)).toNat 64))) zB0.size (b (zW zI (32+zW zI (ze zB0 (zW zU (zal a (2^min ((32:Int)).toNat 64))).toNat)))) else bif 65536<=a then bif 256<=zal a (2^min ((16:Int)).toNat 64) then zd (zW zU (zal (zal a (2^min ((16:Int)).toNat 64)) (2^min ((8:Int)).toNat 64))) zB0.size (b (zW zI (zW zI (zW zI (0+16)+8)+zW zI (ze zB0 (zW zU (zal (zal a (2^min ((16:Int)).toNat 64)) (2^min ((8:Int)).toNat 64))).toNat)))) else zd (zW zU (zal a (2^min ((16:Int)).toNat 64))) zB0.size (b (zW zI (zW zI (0+16)+zW zI (ze zB0 (zW zU (zal a (2^min ((16:Int)).toNat 64))).toNat)))) else bif 256<=a then zd (zW zU (zal a (2^min ((8:Int)).toNat 64))) zB0.size (b (zW zI (zW zI (0+8)+zW zI (ze zB0 (zW zU (zal a (2^min ((8:Int)).toNat 64))).toNat)))) else zd (zW zU a) zB0.size (b (zW zI (0+zW zI (ze zB0 (zW zU a).toNat))))
def vr(a:Int):Option Int:=
 IE a (λa0=>some a0)
def zpq{R:Type}(a:Int)(b:Int->Option R):Option R:=
 (vr a).bind λr1=>b (zW zI (64-r1))
def nz(a:Int):Option Int:=
 zpq a (λa0=>some a0)
def zyy{R:Type}(a:Int)(b:aH->Option R):Option R:=
 bif a<1 then b (0,0,()) else bif 128<a then b (0,0,()) else bif a<=64 then bif zW zI (64-a)<0 then none else b (IntKind.u64.wrap (1*2^min (zW zI (64-a)).toNat 64),0,()) else bif zW zI (128-a)<0 then none else b (0,IntKind.u64.wrap (1*2^min (zW zI (128-a)).toNat 64),())
def Nd(a:Int):Option aH:=
 zyy a (λa0=>some a0)
def zyu{R:Type}(a b:aH)(c:aH->Option R):Option R:=
 c (aU .or .u64 a.1 b.1,aU .or .u64 a.2.1 b.2.1,())
def vT(a b:aH):Option aH:=
 zyu a b (λa0=>some a0)
def zyx{R:Type}(a:aH)(b:Int)(c:aH->Option R):Option R:=
 (Nd b).bind λr1=>(vT a r1).bind λr2=>c r2
def C4(a:aH)(b:Int):Option aH:=
 zyx a b (λa0=>some a0)
def zys{R:Type}(a:(List Int))(b:(List Int)->Int->Int->aH->aH->Option R):Option R:=
 b a ((aa a):Int) 0 (0,0,()) (0,0,())
def zk1{R:Type}(a:(List Int))(b c:Int)(d e:aH)(f:(List Int)->Int->Int->aH->aH->Option R)(g:aH->aH->Option R):Option R:=
 bif c<b then zd c (aa a) ((C4 e (an a c.toNat (0:Int))).bind λr1=>f a b (zW zI (c+1)) d r1) else g d e
def zyt{R:Type}(a b:aH)(c:aH->Option R):Option R:=
 c b
def FG:Nat->(List Int)->Int->Int->aH->aH->Option (aH×aH)
 |0,_,_,_,_,_=>none
 |k+1,v0,v1,v2,v3,v4=>zk1 v0 v1 v2 v3 v4 (λa0 a1 a2 a3 a4=>FG k a0 a1 a2 a3 a4) (λa0 a1=>some (a0,a1))
def xO(a:(List Int)):Option aH:=
 zys a (λa0 a1 a2 a3 a4=>(FG af a0 a1 a2 a3 a4).bind λe=>zyt e.1 e.2 (λa0=>some a0))
def zk2{R:Type}(a b:aH)(c:aH->Option R):Option R:=
 c (aU .and .u64 a.1 b.1,aU .and .u64 a.2.1 b.2.1,())
def uw(a b:aH):Option aH:=
 zk2 a b (λa0=>some a0)
def KB{R:Type}(a b:Int)(c:aH->Option R):Option R:=
 c (a,b,())
def Q26(a b:Int):Option aH:=
 KB a b (λa0=>some a0)
def zyw{R:Type}(a:aH)(b:Int)(c:Int->Option R):Option R:=
 bif(if b<0 then 0 else b)<64 then bif(if b<0 then 0 else b)<0 then none else bif !decide (IntKind.u64.wrap (a.1*2^min (if b<0 then 0 else b).toNat 64)=0) then(nz (IntKind.u64.wrap (a.1*2^min (if b<0 then 0 else b).toNat 64))).bind λr1=>c (zW zI (zW zI ((if b<0 then 0 else b)+r1)+1)) else bif(if 64<zW zI (64-64) then 64 else zW zI (64-64))<0 then none else bif !decide (IntKind.u64.wrap (a.2.1*2^min (if 64<zW zI (64-64) then 64 else zW zI (64-(64:Int))).toNat 64)=0) then(nz (IntKind.u64.wrap (a.2.1*2^min (if 64<zW zI (64-64) then 64 else zW zI (64-(64:Int))).toNat 64))).bind λr2=>c (zW zI (zW zI (64+r2)+1)) else c 0 else bif(if 64<zW zI ((if b<0 then 0 else b)-64) then 64 else zW zI ((if b<0 then 0 else b)-64))<0 then none else bif !decide (IntKind.u64.wrap (a.2.1*2^min (if 64<zW zI ((if b<0 then 0 else b)-64) then 64 else zW zI ((if b<0 then 0 else b)-(64:Int))).toNat 64)=0) then(nz (IntKind.u64.wrap (a.2.1*2^min (if 64<zW zI ((if b<0 then 0 else b)-64) then 64 else zW zI ((if b<0 then 0 else b)-(64:Int))).toNat 64))).bind λr3=>c (zW zI (zW zI ((if b<0 then 0 else b)+r3)+1)) else c 0
def Nc(a:aH)(b:Int):Option Int:=
 zyw a b (λa0=>some a0)
def zyv{R:Type}(a:aH)(b:Int)(c:Bool->Option R):Option R:=
 (Nd b).bind λr1=>(uw a r1).bind λr2=>c (!(decide (r2.1=0)&&(decide (r2.2.1=0)&&true)))
def Pn(a:aH)(b:Int):Option Bool:=
 zyv a b (λa0=>some a0)
def KC{R:Type}(a:aH)(b:Int->Int->Option R):Option R:=
 b a.1 a.2.1
def Q30(a:aH):Option (Int×Int):=
 KC a (λa0 a1=>some (a0,a1))
def IC{R:Type}(a:Int)(b:Int->Bool->Option R):Option R:=
 bif 48<=a then bif a<=57 then b (zW zI (zW zU (a-48))) true else bif 65<=a then bif a<=70 then b (zW zI (zW zI (zW zU (a-65))+10)) true else b 0 false else b 0 false else bif 65<=a then bif a<=70 then b (zW zI (zW zI (zW zU (a-65))+10)) true else b 0 false else b 0 false
def vq(a:Int):Option (Int×Bool):=
 IC a (λa0 a1=>some (a0,a1))
def zpm{R:Type}(a:ByteArray)(b:ByteArray->(List Int)->Int->Int->Option R):Option R:=
 bif 0<=zW zI (zaf (a.size:Int) 2) then bif zW zI (zaf (a.size:Int) 2)*1<=140737488355328 then b a [] 0 0 else none else none
def Z1{R:Type}(a:ByteArray)(b:(List Int))(c d:Int)(e:ByteArray->ByteArray->Int->Bool->(List Int)->Option R)(f:ByteArray->(List Int)->Int->Int->Option R)(g:ByteArray->(List Int)->Option R):Option R:=
 bif d<(a.size:Int) then zd d a.size ((vq (ze a d.toNat)).bind λr1=>bif !r1.2 then e a (bs []) d false b else bif zaN d 2=0 then f a b r1.1 (zW zI (d+1)) else bif(aa b+aa ([(zW zU (aU .or .i64 (zW zI (c*2^min ((4:Int)).toNat 64)) r1.1))]:List Int))*1<=140737488355328 then f a (b++([(zW zU (aU .or .i64 (zW zI (c*2^min ((4:Int)).toNat 64)) r1.1))]:List Int)) c (zW zI (d+1)) else none) else g a b
def z167{R:Type}(a b:ByteArray)(c:Int)(d:Bool)(e:(List Int))(f:ByteArray->Int->Bool->Option R):Option R:=
 f b c d
def zpn{R:Type}(a:ByteArray)(b:(List Int))(c:ByteArray->Int->Bool->Option R):Option R:=
 bif !decide (zaN (a.size:Int) 2=0) then c (bs []) (a.size:Int) false else c (strOf b) 0 true
def Ms:Nat->ByteArray->(List Int)->Int->Int->Option (Sum (ByteArray×ByteArray×Int×Bool×(List Int)) (ByteArray×(List Int)))
 |0,_,_,_,_=>none
 |k+1,v0,v1,v2,v3=>Z1 v0 v1 v2 v3 (λa0 a1 a2 a3 a4=>some (.inl (a0,a1,a2,a3,a4))) (λa0 a1 a2 a3=>Ms k a0 a1 a2 a3) (λa0 a1=>some (.inr (a0,a1)))
def il(a:ByteArray):Option (ByteArray×Int×Bool):=
 zpm a (λa0 a1 a2 a3=>(Ms af a0 a1 a2 a3).bind λe=>GB (λ(we:(ByteArray×ByteArray×Int×Bool×(List Int)))=>z167 we.1 we.2.1 we.2.2.1 we.2.2.2.1 we.2.2.2.2 (λa0 a1 a2=>some (a0,a1,a2))) (λ(we:(ByteArray×(List Int)))=>zpn we.1 we.2 (λa0 a1 a2=>some (a0,a1,a2))) e)
def zpp{R:Type}(a:ByteArray)(b:ByteArray->(List Int)->Int->Option R):Option R:=
 bif 0<=zW zI (2*(a.size:Int)) then bif zW zI (2*(a.size:Int))*1<=140737488355328 then b a [] 0 else none else none
def Z2{R:Type}(a:ByteArray)(b:(List Int))(c:Int)(d:ByteArray->(List Int)->Int->Option R)(e:(List Int)->Option R):Option R:=
 bif c<(a.size:Int) then zd c a.size (zd (zal (ze a c.toNat) (2^min ((4:Int)).toNat 8)) (bs [48,49,50,51,52,53,54,55,56,57,65,66,67,68,69,70]).size (zd c a.size (zd (aU .and .u8 (ze a c.toNat) 15) (bs [48,49,50,51,52,53,54,55,56,57,65,66,67,68,69,70]).size (bif(aa b+aa ([(ze (bs [48,49,50,51,52,53,54,55,56,57,65,66,67,68,69,70]) (zal (ze a c.toNat) (2^min ((4:Int)).toNat 8)).toNat),(ze (bs [48,49,50,51,52,53,54,55,56,57,65,66,67,68,69,70]) (aU .and .u8 (ze a c.toNat) (15:Int)).toNat)]:List Int))*1<=140737488355328 then d a (b++([(ze (bs [48,49,50,51,52,53,54,55,56,57,65,66,67,68,69,70]) (zal (ze a c.toNat) (2^min ((4:Int)).toNat 8)).toNat),(ze (bs [48,49,50,51,52,53,54,55,56,57,65,66,67,68,69,70]) (aU .and .u8 (ze a c.toNat) (15:Int)).toNat)]:List Int)) (zW zI (c+1)) else none)))) else e b
def z168{R:Type}(a:(List Int))(b:ByteArray->Option R):Option R:=
 b (strOf a)
def Mt:Nat->ByteArray->(List Int)->Int->Option (List Int)
 |0,_,_,_=>none
 |k+1,v0,v1,v2=>Z2 v0 v1 v2 (λa0 a1 a2=>Mt k a0 a1 a2) (λa0=>some a0)
def kI(a:ByteArray):Option ByteArray:=
 zpp a (λa0 a1 a2=>(Mt af a0 a1 a2).bind λe=>z168 e (λa0=>some a0))
def nG{R:Type}(a:Int)(b:Bool->Option R):Option R:=
 bif a=1 then b true else b (decide (a=2))
def Q9(a:Int):Option Bool:=
 nG a (λa0=>some a0)
def zx3{R:Type}(a:Int)(b:ByteArray)(c:Int)(d:(List Int)->Int->Int->Option R):Option R:=
 bif a=1 then bif zW zI ((b.size:Int)-c)<zW zI (8*2) then d (so 8 0) 0 2 else bif 0<=zW zI (c+zW zI (8*2)) then bif zW zI (c+zW zI (8*2))<=(b.size:Int) then bif 0<=c then bif c<=(((zW zI (c+zW zI (8*(2:Int)))).toNat:Nat):Int) then bif a=1 then(il (b.extract c.toNat (zW zI (c+zW zI (8*(2:Int)))).toNat)).bind λr1=>bif !r1.2.2 then d (so 8 0) 0 3 else bif xz 8 (aa (so 8 (0:Int))) then bif xz 8 (aa (ci (so 8 (0:Int)) (It 8 (oT r1.1)) 0)) then d (ci (so 8 0) (It 8 (oT r1.1)) 0) (zW zI (c+zW zI (8*2))) 0 else none else none else bif xz 8 (aa (so 8 (0:Int))) then bif xz 8 (aa (ci (so 8 (0:Int)) (It 8 (oT (b.extract c.toNat (zW zI (c+zW zI ((8:Int)*(2:Int)))).toNat))) 0)) then d (ci (so 8 0) (It 8 (oT (b.extract c.toNat (zW zI (c+zW zI (8*(2:Int)))).toNat))) 0) (zW zI (c+zW zI (8*2))) 0 else none else none else none else none else none else none else bif zW zI ((b.size:Int)-c)<8 then d (so 8 0) 0 2 else bif 0<=zW zI (c+8) then bif zW zI (c+8)<=(b.size:Int) then bif 0<=c then bif c<=(((zW zI (c+(8:Int))).toNat:Nat):Int) then bif a=1 then(il (b.extract c.toNat (zW zI (c+(8:Int))).toNat)).bind λr2=>bif !r2.2.2 then d (so 8 0) 0 3 else bif xz 8 (aa (so 8 (0:Int))) then bif xz 8 (aa (ci (so 8 (0:Int)) (It 8 (oT r2.1)) 0)) then d (ci (so 8 0) (It 8 (oT r2.1)) 0) (zW zI (c+8)) 0 else none else none else bif xz 8 (aa (so 8 (0:Int))) then bif xz 8 (aa (ci (so 8 (0:Int)) (It 8 (oT (b.extract c.toNat (zW zI (c+(8:Int))).toNat))) 0)) then d (ci (so 8 0) (It 8 (oT (b.extract c.toNat (zW zI (c+(8:Int))).toNat))) 0) (zW zI (c+8)) 0 else none else none else none else none else none else none
def Nb(a:Int)(b:ByteArray)(c:Int):Option ((List Int)×Int×Int):=
 zx3 a b c (λa0 a1 a2=>some (a0,a1,a2))
def qP{R:Type}(a:(List Int))(b:Int->(List Int)->Int->Option R):Option R:=
 b 0 a 0
def nD{R:Type}(a:Int)(b:(List Int))(c:Int)(d:Int->(List Int)->Int->Option R)(e:Int->Option R):Option R:=
 bif c<8 then zd c 8 (d (aU .or .u64 (IntKind.u64.wrap (a*2^min ((8:Int)).toNat 64)) (IntKind.u64.wrap (an b c.toNat 0))) b (zW zI (c+1))) else e a
def vV{R:Type}(a:Int)(b:Int->Option R):Option R:=
 b a
def kP:Nat->Int->(List Int)->Int->Option Int
 |0,_,_,_=>none
 |k+1,v0,v1,v2=>nD v0 v1 v2 (λa0 a1 a2=>kP k a0 a1 a2) (λa0=>some a0)
def Q7(a:(List Int)):Option Int:=
 qP a (λa0 a1 a2=>(kP af a0 a1 a2).bind λe=>vV e (λa0=>some a0))
def qB{R:Type}(a:Int)(b:ByteArray)(c:Int)(d:aH->Int->Int->Option R):Option R:=
 (Q9 a).bind λr1=>bif !r1 then d (0,0,()) 0 1 else bif c<0 then d (0,0,()) 0 1 else bif(b.size:Int)<c then d (0,0,()) 0 1 else(Nb a b c).bind λr2=>bif !decide (r2.2.2=0) then d (0,0,()) 0 r2.2.2 else(Q7 r2.1).bind λr3=>bif aU .and .u64 r3 9223372036854775808=0 then(Q26 r3 (0:Int)).bind λr4=>d r4 r2.2.1 0 else(Nb a b r2.2.1).bind λr5=>bif !decide (r5.2.2=0) then d (0,0,()) 0 r5.2.2 else bif r5.1=([0,0,0,0,0,0,0,0]:List Int) then d (0,0,()) 0 8 else(Q7 r5.1).bind λr6=>(Q26 (aU .andNot .u64 r3 9223372036854775808) r6).bind λr7=>d r7 r5.2.1 0
def Q5(a:Int)(b:ByteArray)(c:Int):Option (aH×Int×Int):=
 qB a b c (λa0 a1 a2=>some (a0,a1,a2))
def qU{R:Type}(a:Int)(b:Int->Int->(List Int)->(List Int)->Option R):Option R:=
 b a 0 (so 8 0) (so 8 0)
def nF{R:Type}(a b:Int)(c d:(List Int))(e:Int->Int->(List Int)->(List Int)->Option R)(f:(List Int)->(List Int)->Option R):Option R:=
 bif b<8 then bif zW zI (8*zW zI (7-b))<0 then none else zd b 8 (e a (zW zI (b+1)) c (za1 d b.toNat (zW zU (zal a (2^min (zW zI (8*zW zI (7-b))).toNat 64))))) else f c d
def qV{R:Type}(a b:(List Int))(c:(List Int)->Option R):Option R:=
 c b
def iP:Nat->Int->Int->(List Int)->(List Int)->Option ((List Int)×(List Int))
 |0,_,_,_,_=>none
 |k+1,v0,v1,v2,v3=>nF v0 v1 v2 v3 (λa0 a1 a2 a3=>iP k a0 a1 a2 a3) (λa0 a1=>some (a0,a1))
def Q8(a:Int):Option (List Int):=
 qU a (λa0 a1 a2 a3=>(iP af a0 a1 a2 a3).bind λe=>qV e.1 e.2 (λa0=>some a0))
def qI{R:Type}(a:Int)(b:aH)(c:ByteArray->Int->Option R):Option R:=
 (Q9 a).bind λr1=>bif !r1 then c (bs []) 1 else(Pn b (1:Int)).bind λr2=>bif r2 then c (bs []) 1 else(Q30 b).bind λr3=>(Q8 r3.2).bind λr4=>bif !decide (r4=([0,0,0,0,0,0,0,0]:List Int)) then bif xz 8 (aa r4) then(Q8 (aU .or .u64 r3.1 (9223372036854775808:Int))).bind λr5=>bif xz 8 (aa r5) then bif(strOf r5).size+(strOf r4).size<=9223372036854775807 then bif a=1 then(kI (strOf r5++strOf r4)).bind λr6=>c r6 0 else c (strOf r5++strOf r4) 0 else none else none else none else(Q8 r3.1).bind λr7=>bif xz 8 (aa r7) then bif(strOf r7).size+(bs []).size<=9223372036854775807 then bif a=1 then(kI (strOf r7++bs [])).bind λr8=>c r8 0 else c (strOf r7++bs []) 0 else none else none
def Q6(a:Int)(b:aH):Option Ej:=
 qI a b (λa0 a1=>some (a0,a1))
def Z8{R:Type}(a:Int)(b:Int->Option R):Option R:=
 bif a=2 then b 2 else bif a=3 then b 3 else b 0
def kJ(a:Int):Option Int:=
 Z8 a (λa0=>some a0)
def IY{R:Type}(a:Int)(b:Int->Int->Int->Option R):Option R:=
 (kJ a).bind λr1=>b 0 r1 0
def IZ{R:Type}(a b c:Int)(d:Int->Int->Int->Option R)(e:Int->Option R):Option R:=
 bif c<b then d (zW zI (zW zI (10*a)+9)) b (zW zI (c+1)) else e a
def I0{R:Type}(a:Int)(b:Int->Option R):Option R:=
 b a
def zq6:Nat->Int->Int->Int->Option Int
 |0,_,_,_=>none
 |k+1,v0,v1,v2=>IZ v0 v1 v2 (λa0 a1 a2=>zq6 k a0 a1 a2) (λa0=>some a0)
def s7(a:Int):Option Int:=
 IY a (λa0 a1 a2=>(zq6 af a0 a1 a2).bind λe=>I0 e (λa0=>some a0))
def Z7{R:Type}(a b:Int)(c:Bool->Option R):Option R:=
 bif a=1 then(kJ b).bind λr1=>c (decide (0<r1)) else bif a=2 then(kJ b).bind λr2=>c (decide (0<r2)) else c false
def s9(a b:Int):Option Bool:=
 Z7 a b (λa0=>some a0)
def zq4{R:Type}(a b:Int)(c:ByteArray)(d:Int)(e:Int->Int->Int->Option R):Option R:=
 (s9 a b).bind λr1=>bif !r1 then e 0 0 1 else bif d<0 then e 0 0 1 else bif(c.size:Int)<d then e 0 0 1 else(kJ b).bind λr2=>bif a=2 then(Q2 r2).bind λr3=>bif zW zI ((c.size:Int)-d)<r3 then e 0 0 2 else bif 0<=zW zI (d+r3) then bif zW zI (d+r3)<=(c.size:Int) then bif 0<=d then bif d<=(((zW zI (d+r3)).toNat:Nat):Int) then bif a=2 then(kJ b).bind λr4=>(Q0 (c.extract d.toNat (zW zI (d+r3)).toNat) r4).bind λr5=>bif !decide (r5.2.1=0) then e 0 0 3 else(C1 r5.1).bind λr6=>bif !r6.2 then e 0 0 3 else e r6.1 (zW zI (d+r3)) 0 else(C1 (c.extract d.toNat (zW zI (d+r3)).toNat)).bind λr7=>bif !r7.2 then e 0 0 3 else e r7.1 (zW zI (d+r3)) 0 else none else none else none else none else bif zW zI ((c.size:Int)-d)<r2 then e 0 0 2 else bif 0<=zW zI (d+r2) then bif zW zI (d+r2)<=(c.size:Int) then bif 0<=d then bif d<=(((zW zI (d+r2)).toNat:Nat):Int) then bif a=2 then(kJ b).bind λr8=>(Q0 (c.extract d.toNat (zW zI (d+r2)).toNat) r8).bind λr9=>bif !decide (r9.2.1=0) then e 0 0 3 else(C1 r9.1).bind λj4=>bif !j4.2 then e 0 0 3 else e j4.1 (zW zI (d+r2)) 0 else(C1 (c.extract d.toNat (zW zI (d+r2)).toNat)).bind λjt=>bif !jt.2 then e 0 0 3 else e jt.1 (zW zI (d+r2)) 0 else none else none else none else none
def vA(a b:Int)(c:ByteArray)(d:Int):Option jy:=
 zq4 a b c d (λa0 a1 a2=>some (a0,a1,a2))
def zq7{R:Type}(a b c:Int)(d:ByteArray->Int->Option R):Option R:=
 (s9 a b).bind λr1=>bif !r1 then d (bs []) 1 else(kJ b).bind λr2=>(Pj c r2).bind λr3=>bif !r3.2 then d (bs []) 5 else bif a=2 then(Q1 r3.1).bind λr4=>d r4.1 0 else d r3.1 0
def s8(a b c:Int):Option Ej:=
 zq7 a b c (λa0 a1=>some (a0,a1))
def zy4{R:Type}(a:Int)(b:Int->Option R):Option R:=
 bif a=1 then b 1 else bif a=2 then b 2 else bif a=3 then b 3 else bif a=4 then b 7 else bif a=5 then b 15 else bif a=6 then b 15 else b 0
def CX(a:Int):Option Int:=
 zy4 a (λa0=>some a0)
def zxv{R:Type}(a:Int)(b:Bool->Option R):Option R:=
 (CX a).bind λr1=>b (!decide (r1=0))
def FT(a:Int):Option Bool:=
 zxv a (λa0=>some a0)
def Ko{R:Type}(a:Int)(b:Int->Option R):Option R:=
 bif 48<=a then bif a<=57 then b 1 else bif 65<=a then bif a<=90 then b 2 else bif 97<=a then bif a<=122 then b 2 else bif 32<=a then bif a<=126 then b 4 else b 8 else b 8 else bif 32<=a then bif a<=126 then b 4 else b 8 else b 8 else bif 97<=a then bif a<=122 then b 2 else bif 32<=a then bif a<=126 then b 4 else b 8 else b 8 else bif 32<=a then bif a<=126 then b 4 else b 8 else b 8 else bif 65<=a then bif a<=90 then b 2 else bif 97<=a then bif a<=122 then b 2 else bif 32<=a then bif a<=126 then b 4 else b 8 else b 8 else bif 32<=a then bif a<=126 then b 4 else b 8 else b 8 else bif 97<=a then bif a<=122 then b 2 else bif 32<=a then bif a<=126 then b 4 else b 8 else b 8 else bif 32<=a then bif a<=126 then b 4 else b 8 else b 8
def FU(a:Int):Option Int:=
 Ko a (λa0=>some a0)
def zxr{R:Type}(a:Int)(b:ByteArray)(c:ByteArray->Int->Int->Option R):Option R:=
 (CX a).bind λr1=>c b r1 0
def zij{R:Type}(a:ByteArray)(b c:Int)(d:Int->Option R)(e:ByteArray->Int->Int->Option R)(f:Option R):Option R:=
 bif c<(a.size:Int) then zd c a.size ((FU (ze a c.toNat)).bind λr2=>bif aU .and .i64 b r2=0 then d c else e a b (zW zI (c+1))) else f
def Km{R:Type}(a:Int)(b:Int->Option R):Option R:=
 b a
def Kn{R:Type}(a:Int->Option R):Option R:=
 a (-1:Int)
def MO:Nat->ByteArray->Int->Int->Option (Sum Int Unit)
 |0,_,_,_=>none
 |k+1,v0,v1,v2=>zij v0 v1 v2 (λa0=>some (.inl a0)) (λa0 a1 a2=>MO k a0 a1 a2) (some (.inr ()))
def Pc(a:Int)(b:ByteArray):Option Int:=
 zxr a b (λa0 a1 a2=>(MO af a0 a1 a2).bind λe=>GB (λ(we:Int)=>Km we (λa0=>some a0)) (λ(we:Unit)=>Kn (λa0=>some a0)) e)
def zxy{R:Type}(a b:Int)(c:Bool->Option R):Option R:=
 (FT a).bind λr1=>bif r1 then(FT b).bind λr2=>bif r2 then(CX b).bind λr3=>(CX a).bind λr4=>c (decide (aU .andNot .i64 r3 r4=0)) else c false else c false
def Pd(a b:Int):Option Bool:=
 zxy a b (λa0=>some a0)
def JB{R:Type}(a:Int)(b:Bool->Option R):Option R:=
 bif 0<a then bif a<=255 then b (decide (aU .and .i64 a 32=0)) else b false else b false
def pr(a:Int):Option Bool:=
 JB a (λa0=>some a0)
def zrr{R:Type}(a:Int)(b:Bool->Option R):Option R:=
 bif a<=255 then(pr a).bind λr1=>bif r1 then b (!decide (aU .and .i64 a 31=31)) else b false else bif a<=65535 then(pr (zal a (2^min ((8:Int)).toNat 64))).bind λr2=>bif r2 then bif aU .and .i64 (zal a (2^min ((8:Int)).toNat 64)) 31=31 then bif 1<=aU .and .i64 a 255 then b (decide (aU .and .i64 a 255<=127)) else b false else b false else b false else b false
def vP(a:Int):Option Bool:=
 zrr a (λa0=>some a0)
def zrq{R:Type}(a:ByteArray)(b:Int)(c:Int->Int->Int->Option R):Option R:=
 bif b<0 then c 0 0 1 else bif(a.size:Int)<b then c 0 0 1 else bif b=(a.size:Int) then c 0 0 2 else zd b a.size ((pr (zW zI (ze a b.toNat))).bind λr1=>bif !r1 then c 0 0 13 else bif !decide (aU .and .i64 (zW zI (ze a b.toNat)) 31=31) then c (zW zI (ze a b.toNat)) (zW zI (b+1)) 0 else bif zW zI (b+1)=(a.size:Int) then c 0 0 2 else zd (zW zI (b+1)) a.size ((vP (aU .or .i64 (zW zI (zW zI (ze a b.toNat)*2^min ((8:Int)).toNat 64)) (zW zI (ze a (zW zI (b+(1:Int))).toNat)))).bind λr2=>bif !r2 then c 0 0 13 else c (aU .or .i64 (zW zI (zW zI (ze a b.toNat)*2^min ((8:Int)).toNat 64)) (zW zI (ze a (zW zI (b+(1:Int))).toNat))) (zW zI (b+2)) 0))
def vO(a:ByteArray)(b:Int):Option jy:=
 zrq a b (λa0 a1 a2=>some (a0,a1,a2))
def zrt{R:Type}(a:ByteArray)(b:ByteArray->al->Int->QI->Option R):Option R:=
 b a [] 0 []
def zru{R:Type}(a:ByteArray)(b:al)(c:Int)(d:QI)(e:al->Int->Int->al->Option R)(f:ByteArray->al->Int->QI->Option R)(g:al->Option R):Option R:=
 bif c<(a.size:Int) then(vO a c).bind λr1=>bif !decide (r1.2.2=(0:Int)) then e ([]:List aT) r1.2.2 c b else(Q3 a r1.2.1).bind λr2=>bif !decide (r2.2.2=(0:Int)) then e ([]:List aT) r2.2.2 r1.2.1 b else bif zW zI ((a.size:Int)-r2.2.1)<r2.1 then e ([]:List aT) (2:Int) (a.size:Int) b else bif fG (gL (.int .i64)) false d r1.1 then e ([]:List aT) (10:Int) c b else bif fH (gL (.int .i64)) d r1.1 then none else bif(0:Int)<=zW zI (r2.2.1+r2.1) then bif zW zI (r2.2.1+r2.1)<=((a.size:Nat):Int) then bif(0:Int)<=r2.2.1 then bif r2.2.1<=(((zW zI (r2.2.1+r2.1)).toNat:Nat):Int) then bif(aa b+aa ([(r1.1,a.extract r2.2.1.toNat (zW zI (r2.2.1+r2.1)).toNat,())]:List aT))*24<=140737488355328 then f a (b++([(r1.1,a.extract r2.2.1.toNat (zW zI (r2.2.1+r2.1)).toNat,())]:List aT)) (zW zI (r2.2.1+r2.1)) (d++ [(r1.1,true)]) else none else none else none else none else none else g b
def JD{R:Type}(a:al)(b c:Int)(d:al)(e:al->Int->Int->Option R):Option R:=
 e a b c
def JE{R:Type}(a:al)(b:al->Int->Int->Option R):Option R:=
 b a 0 0
def Oh:Nat->ByteArray->al->Int->QI->Option (Sum tu al)
 |0,_,_,_,_=>none
 |k+1,v0,v1,v2,v3=>zru v0 v1 v2 v3 (λa0 a1 a2 a3=>some (.inl (a0,a1,a2,a3))) (λa0 a1 a2 a3=>Oh k a0 a1 a2 a3) (λa0=>some (.inr a0))
def vQ(a:ByteArray):Option (Sum kh kh):=
 zrt a (λa0 a1 a2 a3=>(Oh af a0 a1 a2 a3).bind λe=>GB (λ(we:tu)=>JD we.1 we.2.1 we.2.2.1 we.2.2.2 (λa0 a1 a2=>some (.inl (a0,a1,a2)))) (λ(we:al)=>JE we (λa0 a1 a2=>some (.inr (a0,a1,a2)))) e)
def zra{R:Type}(a:aA)(b:Int->Option R):Option R:=
 bif a.1<2 then b 1 else bif 128<a.1 then b 1 else(FT a.2.1).bind λr1=>bif !r1 then b 6 else bif a.2.2.1<1 then b 3 else bif 3<a.2.2.1 then b 3 else bif a.2.2.2.1<1 then b 5 else bif a.2.2.2.2.1<a.2.2.2.1 then b 5 else bif 999<a.2.2.2.2.1 then b 5 else bif a.2.2.1=1 then bif !decide (a.2.2.2.1=a.2.2.2.2.1) then b 5 else bif !decide (a.2.2.1=1) then(s7 a.2.2.1).bind λr2=>bif r2<a.2.2.2.2.1 then b 5 else bif a.2.2.1=1 then bif a.2.1=6 then b 13 else b 0 else b 0 else bif a.2.2.1=1 then bif a.2.1=6 then b 13 else b 0 else b 0 else bif !decide (a.2.2.1=1) then(s7 a.2.2.1).bind λr3=>bif r3<a.2.2.2.2.1 then b 5 else bif a.2.2.1=1 then bif a.2.1=6 then b 13 else b 0 else b 0 else bif a.2.2.1=1 then bif a.2.1=6 then b 13 else b 0 else b 0
def mM(a:aA):Option Int:=
 zra a (λa0=>some a0)
def zrb{R:Type}(a:aA)(b:ByteArray)(c:Int->Option R):Option R:=
 (mM a).bind λr1=>bif !decide (r1=0) then c 1 else bif(b.size:Int)<a.2.2.2.1 then c 5 else bif a.2.2.2.2.1<(b.size:Int) then c 5 else(Pc a.2.1 b).bind λr2=>bif 0<=r2 then c 6 else bif a.2.1=6 then(vQ b).bind λr3=>GB (λ(uG:kh)=>bif !decide (uG.2.1=0) then c 13 else c 0) (λ(uG:kh)=>bif !decide (uG.2.1=0) then c 13 else c 0) r3 else c 0
def cf(a:aA)(b:ByteArray):Option Int:=
 zrb a b (λa0=>some a0)
def zrd{R:Type}(a b:Int)(c:Bool->Option R):Option R:=
 bif a=5 then c true else bif a=6 then c (decide (a=b)) else bif b=6 then c (decide (a=b)) else(Pd a b).bind λr1=>c r1
def yH(a b:Int):Option Bool:=
 zrd a b (λa0=>some a0)
def zrc{R:Type}(a b:aA)(c:Bool->Option R):Option R:=
 (mM a).bind λr1=>bif r1=0 then(mM b).bind λr2=>bif r2=0 then bif a.2.2.2.1<=b.2.2.2.1 then bif b.2.2.2.2.1<=a.2.2.2.2.1 then(yH a.2.1 b.2.1).bind λr3=>c r3 else c false else c false else c false else c false
def mN(a b:aA):Option Bool:=
 zrc a b (λa0=>some a0)
def zi9{R:Type}(a:Int)(b:Bool->Option R):Option R:=
 bif a=1 then b true else b (decide (a=2))
def FR(a:Int):Option Bool:=
 zi9 a (λa0=>some a0)
def zxh{R:Type}(a b:Int)(c:Int->Option R):Option R:=
 bif a=2 then bif b=1 then c 1 else bif a=1 then bif b=5 then c 2 else bif b=6 then c 2 else c 0 else c 0 else bif a=1 then bif b=5 then c 2 else bif b=6 then c 2 else c 0 else c 0
def lY(a b:Int):Option Int:=
 zxh a b (λa0=>some a0)
def zx8{R:Type}(a:Int)(b:aA)(c:ByteArray)(d:Int)(e:ByteArray->Int->Int->Option R):Option R:=
 (FR a).bind λr1=>bif !r1 then e (bs []) 0 1 else(mM b).bind λr2=>bif !decide (r2=0) then e (bs []) 0 1 else bif d<0 then e (bs []) 0 1 else bif(c.size:Int)<d then e (bs []) 0 1 else bif !decide (b.2.2.1=1) then(vA a b.2.2.1 c d).bind λr3=>bif !decide (r3.2.2=0) then e (bs []) 0 r3.2.2 else bif r3.1<b.2.2.2.1 then e (bs []) 0 5 else bif b.2.2.2.2.1<r3.1 then e (bs []) 0 5 else(lY a b.2.1).bind λr4=>bif r4=1 then(Q2 r3.1).bind λr5=>bif zW zI ((c.size:Int)-r3.2.1)<r5 then e (bs []) 0 2 else bif 0<=zW zI (r3.2.1+r5) then bif zW zI (r3.2.1+r5)<=(c.size:Int) then bif 0<=r3.2.1 then bif r3.2.1<=(((zW zI (r3.2.1+r5)).toNat:Nat):Int) then(lY a b.2.1).bind λr6=>bif r6=1 then(Q0 (c.extract r3.2.1.toNat (zW zI (r3.2.1+r5)).toNat) r3.1).bind λr7=>bif !decide (r7.2.1=0) then e (bs []) 0 r7.2.1 else(cf b r7.1).bind λr8=>bif !decide (r8=0) then e (bs []) 0 r8 else e r7.1 (zW zI (r3.2.1+r5)) 0 else bif r6=2 then(il (c.extract r3.2.1.toNat (zW zI (r3.2.1+r5)).toNat)).bind λr9=>bif !r9.2.2 then e (bs []) 0 3 else(cf b r9.1).bind λj4=>bif !decide (j4=0) then e (bs []) 0 j4 else e r9.1 (zW zI (r3.2.1+r5)) 0 else(cf b (c.extract r3.2.1.toNat (zW zI (r3.2.1+r5)).toNat)).bind λjt=>bif !decide (jt=0) then e (bs []) 0 jt else e (c.extract r3.2.1.toNat (zW zI (r3.2.1+r5)).toNat) (zW zI (r3.2.1+r5)) 0 else none else none else none else none else bif r4=2 then bif zW zI ((c.size:Int)-r3.2.1)<zW zI (2*r3.1) then e (bs []) 0 2 else bif 0<=zW zI (r3.2.1+zW zI (2*r3.1)) then bif zW zI (r3.2.1+zW zI (2*r3.1))<=(c.size:Int) then bif 0<=r3.2.1 then bif r3.2.1<=(((zW zI (r3.2.1+zW zI (2*r3.1))).toNat:Nat):Int) then(lY a b.2.1).bind λlD=>bif lD=1 then(Q0 (c.extract r3.2.1.toNat (zW zI (r3.2.1+zW zI (2*r3.1))).toNat) r3.1).bind λju=>bif !decide (ju.2.1=0) then e (bs []) 0 ju.2.1 else(cf b ju.1).bind λpV=>bif !decide (pV=0) then e (bs []) 0 pV else e ju.1 (zW zI (r3.2.1+zW zI (2*r3.1))) 0 else bif lD=2 then(il (c.extract r3.2.1.toNat (zW zI (r3.2.1+zW zI (2*r3.1))).toNat)).bind λsF=>bif !sF.2.2 then e (bs []) 0 3 else(cf b sF.1).bind λxk=>bif !decide (xk=0) then e (bs []) 0 xk else e sF.1 (zW zI (r3.2.1+zW zI (2*r3.1))) 0 else(cf b (c.extract r3.2.1.toNat (zW zI (r3.2.1+zW zI (2*r3.1))).toNat)).bind λAX=>bif !decide (AX=0) then e (bs []) 0 AX else e (c.extract r3.2.1.toNat (zW zI (r3.2.1+zW zI (2*r3.1))).toNat) (zW zI (r3.2.1+zW zI (2*r3.1))) 0 else none else none else none else none else bif zW zI ((c.size:Int)-r3.2.1)<r3.1 then e (bs []) 0 2 else bif 0<=zW zI (r3.2.1+r3.1) then bif zW zI (r3.2.1+r3.1)<=(c.size:Int) then bif 0<=r3.2.1 then bif r3.2.1<=(((zW zI (r3.2.1+r3.1)).toNat:Nat):Int) then(lY a b.2.1).bind λAY=>bif AY=1 then(Q0 (c.extract r3.2.1.toNat (zW zI (r3.2.1+r3.1)).toNat) r3.1).bind λtY=>bif !decide (tY.2.1=0) then e (bs []) 0 tY.2.1 else(cf b tY.1).bind λx9=>bif !decide (x9=0) then e (bs []) 0 x9 else e tY.1 (zW zI (r3.2.1+r3.1)) 0 else bif AY=2 then(il (c.extract r3.2.1.toNat (zW zI (r3.2.1+r3.1)).toNat)).bind λpW=>bif !pW.2.2 then e (bs []) 0 3 else(cf b pW.1).bind λG4=>bif !decide (G4=0) then e (bs []) 0 G4 else e pW.1 (zW zI (r3.2.1+r3.1)) 0 else(cf b (c.extract r3.2.1.toNat (zW zI (r3.2.1+r3.1)).toNat)).bind λE7=>bif !decide (E7=0) then e (bs []) 0 E7 else e (c.extract r3.2.1.toNat (zW zI (r3.2.1+r3.1)).toNat) (zW zI (r3.2.1+r3.1)) 0 else none else none else none else none else(lY a b.2.1).bind λSg=>bif Sg=1 then(Q2 b.2.2.2.1).bind λsG=>bif zW zI ((c.size:Int)-d)<sG then e (bs []) 0 2 else bif 0<=zW zI (d+sG) then bif zW zI (d+sG)<=(c.size:Int) then bif 0<=d then bif d<=(((zW zI (d+sG)).toNat:Nat):Int) then(lY a b.2.1).bind λr26=>bif r26=1 then(Q0 (c.extract d.toNat (zW zI (d+sG)).toNat) b.2.2.2.1).bind λNG=>bif !decide (NG.2.1=0) then e (bs []) 0 NG.2.1 else(cf b NG.1).bind λr28=>bif !decide (r28=0) then e (bs []) 0 r28 else e NG.1 (zW zI (d+sG)) 0 else bif r26=2 then(il (c.extract d.toNat (zW zI (d+sG)).toNat)).bind λSh=>bif !Sh.2.2 then e (bs []) 0 3 else(cf b Sh.1).bind λr30=>bif !decide (r30=0) then e (bs []) 0 r30 else e Sh.1 (zW zI (d+sG)) 0 else(cf b (c.extract d.toNat (zW zI (d+sG)).toNat)).bind λr31=>bif !decide (r31=0) then e (bs []) 0 r31 else e (c.extract d.toNat (zW zI (d+sG)).toNat) (zW zI (d+sG)) 0 else none else none else none else none else bif Sg=2 then bif zW zI ((c.size:Int)-d)<zW zI (2*b.2.2.2.1) then e (bs []) 0 2 else bif 0<=zW zI (d+zW zI (2*b.2.2.2.1)) then bif zW zI (d+zW zI (2*b.2.2.2.1))<=(c.size:Int) then bif 0<=d then bif d<=(((zW zI (d+zW zI (2*b.2.2.2.1))).toNat:Nat):Int) then(lY a b.2.1).bind λr32=>bif r32=1 then(Q0 (c.extract d.toNat (zW zI (d+zW zI (2*b.2.2.2.1))).toNat) b.2.2.2.1).bind λr33=>bif !decide (r33.2.1=0) then e (bs []) 0 r33.2.1 else(cf b r33.1).bind λr34=>bif !decide (r34=0) then e (bs []) 0 r34 else e r33.1 (zW zI (d+zW zI (2*b.2.2.2.1))) 0 else bif r32=2 then(il (c.extract d.toNat (zW zI (d+zW zI (2*b.2.2.2.1))).toNat)).bind λr35=>bif !r35.2.2 then e (bs []) 0 3 else(cf b r35.1).bind λr36=>bif !decide (r36=0) then e (bs []) 0 r36 else e r35.1 (zW zI (d+zW zI (2*b.2.2.2.1))) 0 else(cf b (c.extract d.toNat (zW zI (d+zW zI (2*b.2.2.2.1))).toNat)).bind λr37=>bif !decide (r37=0) then e (bs []) 0 r37 else e (c.extract d.toNat (zW zI (d+zW zI (2*b.2.2.2.1))).toNat) (zW zI (d+zW zI (2*b.2.2.2.1))) 0 else none else none else none else none else bif zW zI ((c.size:Int)-d)<b.2.2.2.1 then e (bs []) 0 2 else bif 0<=zW zI (d+b.2.2.2.1) then bif zW zI (d+b.2.2.2.1)<=(c.size:Int) then bif 0<=d then bif d<=(((zW zI (d+b.2.2.2.1)).toNat:Nat):Int) then(lY a b.2.1).bind λr38=>bif r38=1 then(Q0 (c.extract d.toNat (zW zI (d+b.2.2.2.1)).toNat) b.2.2.2.1).bind λr39=>bif !decide (r39.2.1=0) then e (bs []) 0 r39.2.1 else(cf b r39.1).bind λr40=>bif !decide (r40=0) then e (bs []) 0 r40 else e r39.1 (zW zI (d+b.2.2.2.1)) 0 else bif r38=2 then(il (c.extract d.toNat (zW zI (d+b.2.2.2.1)).toNat)).bind λr41=>bif !r41.2.2 then e (bs []) 0 3 else(cf b r41.1).bind λr42=>bif !decide (r42=0) then e (bs []) 0 r42 else e r41.1 (zW zI (d+b.2.2.2.1)) 0 else(cf b (c.extract d.toNat (zW zI (d+b.2.2.2.1)).toNat)).bind λr43=>bif !decide (r43=0) then e (bs []) 0 r43 else e (c.extract d.toNat (zW zI (d+b.2.2.2.1)).toNat) (zW zI (d+b.2.2.2.1)) 0 else none else none else none else none
def Pa(a:Int)(b:aA)(c:ByteArray)(d:Int):Option jM:=
 zx8 a b c d (λa0 a1 a2=>some (a0,a1,a2))
def zxc{R:Type}(a:Int)(b:aA)(c:ByteArray)(d:ByteArray->Int->Option R):Option R:=
 (FR a).bind λr1=>bif !r1 then d (bs []) 1 else(cf b c).bind λr2=>bif !decide (r2=0) then d (bs []) r2 else bif !decide (b.2.2.1=1) then(s8 a b.2.2.1 (c.size:Int)).bind λr3=>(lY a b.2.1).bind λr4=>bif r4=1 then(Q1 c).bind λr5=>bif r3.1.size+r5.1.size<=9223372036854775807 then d (r3.1++r5.1) 0 else none else bif r4=2 then(kI c).bind λr6=>bif r3.1.size+r6.size<=9223372036854775807 then d (r3.1++r6) 0 else none else bif r3.1.size+c.size<=9223372036854775807 then d (r3.1++c) 0 else none else(lY a b.2.1).bind λr7=>bif r7=1 then(Q1 c).bind λr8=>bif(bs []).size+r8.1.size<=9223372036854775807 then d (bs []++r8.1) 0 else none else bif r7=2 then(kI c).bind λr9=>bif(bs []).size+r9.size<=9223372036854775807 then d (bs []++r9) 0 else none else bif(bs []).size+c.size<=9223372036854775807 then d (bs []++c) 0 else none
def FP(a:Int)(b:aA)(c:ByteArray):Option Ej:=
 zxc a b c (λa0 a1=>some (a0,a1))
def zyd{R:Type}(a:bd)(b:Int->Int->Option R)(c:bd->Int->Int->lN->Option R):Option R:=
 bif 256<((aa a):Int) then b 5 256 else c a ((aa a):Int) 0 []
def Ku{R:Type}(a:bd)(b c:Int)(d:lN)(e:Int->Int->Option R)(f:bd->Int->Int->lN->Option R)(g:Option R):Option R:=
 bif c<b then zd c (aa a) (bif fG (gL .str) false d (an a c.toNat (bs [],bs [],())).1 then e (10:Int) c else bif fH (gL .str) d (an a c.toNat (bs [],bs [],())).1 then none else f a b (zW zI (c+(1:Int))) (d++ [((an a c.toNat (bs [],bs [],())).1,true)])) else g
def Kv{R:Type}(a b:Int)(c:Int->Int->Option R):Option R:=
 c a b
def Kw{R:Type}(a:Int->Int->Option R):Option R:=
 a 0 0
def zjl:Nat->bd->Int->Int->lN->Option (Sum (Int×Int) Unit)
 |0,_,_,_,_=>none
 |k+1,v0,v1,v2,v3=>Ku v0 v1 v2 v3 (λa0 a1=>some (.inl (a0,a1))) (λa0 a1 a2 a3=>zjl k a0 a1 a2 a3) (some (.inr ()))
def Pg(a:bd):Option (Int×Int):=
 zyd a (λa0 a1=>some (a0,a1)) (λa0 a1 a2 a3=>(zjl af a0 a1 a2 a3).bind λe=>GB (λ(we:(Int×Int))=>Kv we.1 we.2 (λa0 a1=>some (a0,a1))) (λ(we:Unit)=>Kw (λa0 a1=>some (a0,a1))) e)
def zya{R:Type}(a:bd)(b:ByteArray)(c:ByteArray->bd->Int->Int->Option R):Option R:=
 c b a ((aa a):Int) 0
def Kq{R:Type}(a:ByteArray)(b:bd)(c d:Int)(e:ByteArray->Bool->Option R)(f:ByteArray->bd->Int->Int->Option R)(g:Option R):Option R:=
 bif d<c then zd d (aa b) (bif(an b d.toNat (bs [],bs [],())).1=a then e (an b d.toNat (bs [],bs [],())).2.1 true else f a b c (zW zI (d+1))) else g
def Kr{R:Type}(a:ByteArray)(b:Bool)(c:ByteArray->Bool->Option R):Option R:=
 c a b
def Ks{R:Type}(a:ByteArray->Bool->Option R):Option R:=
 a (bs []) false
def zjg:Nat->ByteArray->bd->Int->Int->Option (Sum iH Unit)
 |0,_,_,_,_=>none
 |k+1,v0,v1,v2,v3=>Kq v0 v1 v2 v3 (λa0 a1=>some (.inl (a0,a1))) (λa0 a1 a2 a3=>zjg k a0 a1 a2 a3) (some (.inr ()))
def Pf(a:bd)(b:ByteArray):Option iH:=
 zya a b (λa0 a1 a2 a3=>(zjg af a0 a1 a2 a3).bind λe=>GB (λ(we:iH)=>Kr we.1 we.2 (λa0 a1=>some (a0,a1))) (λ(we:Unit)=>Ks (λa0 a1=>some (a0,a1))) e)
def zz4{R:Type}(a:Int)(b:Int->Option R)(c:Int->ar->Option R):Option R:=
 bif a<1 then b 5 else bif 65535<a then b 5 else c 0 (a,false,[],())
def Pr(a:Int):Option (Sum Int tn):=
 zz4 a (λa0=>some (.inl a0)) (λa0 a1=>some (.inr (a0,a1)))
def zz3{R:Type}(a:ar)(b:Int->ar->Option R):Option R:=
 bif((aa a.2.2.1):Int)<2 then b 0 a else zd 0 (aa a.2.2.1) (zd 1 (aa a.2.2.1) (b (aU .or .i64 (zW zI (zW zI (an a.2.2.1 ((0:Int)).toNat 0)*2^min ((8:Int)).toNat 64)) (zW zI (an a.2.2.1 ((1:Int)).toNat 0))) a))
def Pq(a:ar):Option tn:=
 zz3 a (λa0 a1=>some (a0,a1))
def zz0{R:Type}(a:ar)(b:ByteArray)(c:ByteArray->(List ByteArray)->Int->ar->Option R):Option R:=
 c b [] 0 a
def zk3{R:Type}(a:ByteArray)(b:(List ByteArray))(c:Int)(d:ar)(e:(List ByteArray)->Bool->(List ByteArray)->ar->Option R)(f:ByteArray->(List ByteArray)->Int->ar->Option R)(g:(List ByteArray)->ar->Option R):Option R:=
 bif c<(a.size:Int) then bif !d.2.1 then zd c a.size (bif(aa d.2.2.1+aa ([(ze a c.toNat)]:List Int))*1<=140737488355328 then(Pq (d.1,d.2.1,d.2.2.1++([(ze a c.toNat)]:List Int),())).bind λr1=>bif((aa r1.2.2.2.1):Int)=2 then bif r1.1=0 then e b true b (r1.2.1,true,[],()) else bif r1.2.1<r1.1 then e b true b (r1.2.1,true,[],()) else bif((aa r1.2.2.2.1):Int)=zW zI (2+r1.1) then bif 0<r1.1 then bif 2<=(((aa r1.2.2.2.1):Nat):Int) then bif(aa b+aa ([(strOf (zac ((2:Int)).toNat (It (aa r1.2.2.2.1) r1.2.2.2.1)))]:List ByteArray))*16<=140737488355328 then f a (b++([(strOf (zac ((2:Int)).toNat (It (aa r1.2.2.2.1) r1.2.2.2.1)))]:List ByteArray)) (zW zI (c+1)) (r1.2.1,r1.2.2.1,[],()) else none else none else f a b (zW zI (c+1)) r1.2 else f a b (zW zI (c+1)) r1.2 else bif((aa r1.2.2.2.1):Int)=zW zI (2+r1.1) then bif 0<r1.1 then bif 2<=(((aa r1.2.2.2.1):Nat):Int) then bif(aa b+aa ([(strOf (zac ((2:Int)).toNat (It (aa r1.2.2.2.1) r1.2.2.2.1)))]:List ByteArray))*16<=140737488355328 then f a (b++([(strOf (zac ((2:Int)).toNat (It (aa r1.2.2.2.1) r1.2.2.2.1)))]:List ByteArray)) (zW zI (c+1)) (r1.2.1,r1.2.2.1,[],()) else none else none else f a b (zW zI (c+1)) r1.2 else f a b (zW zI (c+1)) r1.2 else none) else g b d else g b d
def zz1{R:Type}(a:(List ByteArray))(b:Bool)(c:(List ByteArray))(d:ar)(e:(List ByteArray)->Bool->ar->Option R):Option R:=
 e a b d
def zz2{R:Type}(a:(List ByteArray))(b:ar)(c:(List ByteArray)->Bool->ar->Option R):Option R:=
 c a false b
def MT:Nat->ByteArray->(List ByteArray)->Int->ar->Option (Sum ((List ByteArray)×Bool×(List ByteArray)×ar) ((List ByteArray)×ar))
 |0,_,_,_,_=>none
 |k+1,v0,v1,v2,v3=>zk3 v0 v1 v2 v3 (λa0 a1 a2 a3=>some (.inl (a0,a1,a2,a3))) (λa0 a1 a2 a3=>MT k a0 a1 a2 a3) (λa0 a1=>some (.inr (a0,a1)))
def FV(a:ar)(b:ByteArray):Option ((List ByteArray)×Bool×ar):=
 zz0 a b (λa0 a1 a2 a3=>(MT af a0 a1 a2 a3).bind λe=>GB (λ(we:((List ByteArray)×Bool×(List ByteArray)×ar))=>zz1 we.1 we.2.1 we.2.2.1 we.2.2.2 (λa0 a1 a2=>some (a0,a1,a2))) (λ(we:((List ByteArray)×ar))=>zz2 we.1 we.2 (λa0 a1 a2=>some (a0,a1,a2))) e)
def zz5{R:Type}(a:ByteArray)(b:ByteArray->Int->Option R):Option R:=
 bif(a.size:Int)<1 then b (bs []) 5 else bif 65535<(a.size:Int) then b (bs []) 5 else bif(strOf ([(zW zU (zal (a.size:Int) (2^min ((8:Int)).toNat 64))),(zW zU (a.size:Int))]:List Int)).size+a.size<=9223372036854775807 then b (strOf ([(zW zU (zal (a.size:Int) (2^min ((8:Int)).toNat 64))),(zW zU (a.size:Int))]:List Int)++a) 0 else none
def FW(a:ByteArray):Option Ej:=
 zz5 a (λa0 a1=>some (a0,a1))
def KD{R:Type}(a:ar)(b:Bool->ar->Option R):Option R:=
 b a.2.1 a
def Q35(a:ar):Option (Bool×ar):=
 KD a (λa0 a1=>some (a0,a1))
def KG{R:Type}(a:ar)(b:Int->ar->Option R):Option R:=
 b ((aa a.2.2.1):Int) a
def Q37(a:ar):Option tn:=
 KG a (λa0 a1=>some (a0,a1))
def zq2{R:Type}(a:ByteArray)(b:Bool->Option R):Option R:=
 bif(a.size:Int)=4 then(CZ a).bind λr1=>b r1 else b false
def pn(a:ByteArray):Option Bool:=
 zq2 a (λa0=>some a0)
def zq3{R:Type}(a:ByteArray)(b:Int->Bool->Option R):Option R:=
 (pn a).bind λr1=>bif !r1 then b 0 false else zd 0 a.size (b (zW zI (zW zU (ze a ((0:Int)).toNat-48))) true)
def ke(a:ByteArray):Option (Int×Bool):=
 zq3 a (λa0 a1=>some (a0,a1))
def zq0{R:Type}(a:ByteArray)(b:Bool->Option R):Option R:=
 (pn a).bind λr1=>bif r1 then zd 2 a.size (bif ze a ((2:Int)).toNat=48 then b true else zd 2 a.size (b (decide (ze a ((2:Int)).toNat=50)))) else b false
def pk(a:ByteArray):Option Bool:=
 zq0 a (λa0=>some a0)
def zq1{R:Type}(a:ByteArray)(b:ByteArray->Bool->Option R):Option R:=
 (pk a).bind λr1=>bif !r1 then b (bs []) false else bif 2<=(a.size:Int) then zd 2 a.size (bif(a.extract 0 ((2:Int)).toNat).size+(strOf ([(zW zU (ze a ((2:Int)).toNat+1))]:List Int)).size<=9223372036854775807 then bif 3<=(a.size:Int) then bif(a.extract 0 ((2:Int)).toNat++strOf ([(zW zU (ze a ((2:Int)).toNat+1))]:List Int)).size+(a.extract ((3:Int)).toNat a.size).size<=9223372036854775807 then b ((a.extract 0 ((2:Int)).toNat++strOf ([(zW zU (ze a ((2:Int)).toNat+1))]:List Int))++a.extract ((3:Int)).toNat a.size) true else none else none else none) else none
def vz(a:ByteArray):Option iH:=
 zq1 a (λa0 a1=>some (a0,a1))
def Od{R:Type}(a:ah)(b:Int->Int->Option R)(c:kU->Int->Int->ah->Option R):Option R:=
 bif !decide (a.1=1) then bif !decide (a.1=2) then b 1 (-1:Int) else bif a.2.1<0 then b 7 (-1:Int) else bif 9<a.2.1 then b 7 (-1:Int) else c a.2.2.1 ((aa a.2.2.1):Int) 0 a else bif a.2.1<0 then b 7 (-1:Int) else bif 9<a.2.1 then b 7 (-1:Int) else c a.2.2.1 ((aa a.2.2.1):Int) 0 a
theorem adk{R S:Type}(F:R->Option S)(a)(b)(c):(Od a b c).bind F=Od a (λa0 a1=>(b a0 a1).bind F) (λa0 a1 a2 a3=>(c a0 a1 a2 a3).bind F):=by simp only[Od,av]
def ze1{R:Type}(a:kU)(b c:Int)(d:ah)(e:Int->Int->Option R)(f:kU->Int->Int->ah->Option R)(g:Option R):Option R:=
 bif c<b then zd c (aa a) ((mM (an a c.toNat (0,0,0,0,0,()))).bind λr1=>bif !decide (r1=0) then e r1 c else bif 0<c then zd (zW zI (c-1)) (aa d.2.2.1) (bif(an a c.toNat (0,0,0,0,0,())).1<=(an d.2.2.1 (zW zI (c-(1:Int))).toNat (0,0,0,0,0,())).1 then e 11 c else f a b (zW zI (c+1)) d) else f a b (zW zI (c+1)) d) else g
def zqy{R:Type}(a b:Int)(c:Int->Int->Option R):Option R:=
 c a b
def zqz{R:Type}(a:Int->Int->Option R):Option R:=
 a 0 0
def Fz:Nat->kU->Int->Int->ah->Option (Sum (Int×Int) Unit)
 |0,_,_,_,_=>none
 |k+1,v0,v1,v2,v3=>ze1 v0 v1 v2 v3 (λa0 a1=>some (.inl (a0,a1))) (λa0 a1 a2 a3=>Fz k a0 a1 a2 a3) (some (.inr ()))
def nB(a:ah):Option (Int×Int):=
 Od a (λa0 a1=>some (a0,a1)) (λa0 a1 a2 a3=>(Fz af a0 a1 a2 a3).bind λe=>GB (λ(we:(Int×Int))=>zqy we.1 we.2 (λa0 a1=>some (a0,a1))) (λ(we:Unit)=>zqz (λa0 a1=>some (a0,a1))) e)
def zr1{R:Type}(a:ah)(b:Int)(c:Int->kU->Int->Int->aA->Option R):Option R:=
 c b a.2.2.1 ((aa a.2.2.1):Int) 0 (0,0,0,0,0,())
def Ji{R:Type}(a:Int)(b:kU)(c d:Int)(e:aA)(f:Bool->aA->Option R)(g:Int->kU->Int->Int->aA->Option R)(h:aA->Option R):Option R:=
 bif d<c then zd d (aa b) (bif(an b d.toNat (0,0,0,0,0,())).1=a then f true (an b d.toNat (0,0,0,0,0,())) else g a b c (zW zI (d+1)) e) else h e
def Jj{R:Type}(a:Bool)(b:aA)(c:aA->Bool->Option R):Option R:=
 c b a
def Jk{R:Type}(a:aA)(b:aA->Bool->Option R):Option R:=
 b (0,0,0,0,0,()) false
def ze2:Nat->Int->kU->Int->Int->aA->Option (Sum (Bool×aA) aA)
 |0,_,_,_,_,_=>none
 |k+1,v0,v1,v2,v3,v4=>Ji v0 v1 v2 v3 v4 (λa0 a1=>some (.inl (a0,a1))) (λa0 a1 a2 a3 a4=>ze2 k a0 a1 a2 a3 a4) (λa0=>some (.inr a0))
def gk(a:ah)(b:Int):Option (aA×Bool):=
 zr1 a b (λa0 a1 a2 a3 a4=>(ze2 af a0 a1 a2 a3 a4).bind λe=>GB (λ(we:(Bool×aA))=>Jj we.1 we.2 (λa0 a1=>some (a0,a1))) (λ(we:aA)=>Jk we (λa0 a1=>some (a0,a1))) e)
def zpu{R:Type}(a:ag)(b:Int)(c:Int->al->Int->Int->Option R):Option R:=
 c b a.2.1 ((aa a.2.1):Int) 0
def IL{R:Type}(a:Int)(b:al)(c d:Int)(e:ByteArray->Bool->Option R)(f:Int->al->Int->Int->Option R)(g:Option R):Option R:=
 bif d<c then zd d (aa b) (bif(an b d.toNat (0,bs [],())).1=a then e (an b d.toNat (0,bs [],())).2.1 true else f a b c (zW zI (d+1))) else g
def IM{R:Type}(a:ByteArray)(b:Bool)(c:ByteArray->Bool->Option R):Option R:=
 c a b
def IP{R:Type}(a:ByteArray->Bool->Option R):Option R:=
 a (bs []) false
def Z4:Nat->Int->al->Int->Int->Option (Sum iH Unit)
 |0,_,_,_,_=>none
 |k+1,v0,v1,v2,v3=>IL v0 v1 v2 v3 (λa0 a1=>some (.inl (a0,a1))) (λa0 a1 a2 a3=>Z4 k a0 a1 a2 a3) (some (.inr ()))
def pj(a:ag)(b:Int):Option iH:=
 zpu a b (λa0 a1 a2 a3=>(Z4 af a0 a1 a2 a3).bind λe=>GB (λ(we:iH)=>IM we.1 we.2 (λa0 a1=>some (a0,a1))) (λ(we:Unit)=>IP (λa0 a1=>some (a0,a1))) e)
def zpz{R:Type}(a:ag)(b:Int)(c:Int->al->Int->Int->ag->ag->Option R):Option R:=
 c b a.2.1 ((aa a.2.1):Int) 0 (bs [],[],()) (a.1,[],())
def IW{R:Type}(a:Int)(b:al)(c d:Int)(e f:ag)(g:Int->al->Int->Int->ag->ag->Option R)(h:ag->ag->Option R):Option R:=
 bif d<c then zd d (aa b) (bif !decide ((an b d.toNat (0,bs [],())).1=a) then bif(aa f.2.1+aa ([(an b d.toNat ((0:Int),bs [],()))]:List aT))*24<=140737488355328 then g a b c (zW zI (d+1)) e (f.1,f.2.1++([(an b d.toNat (0,bs [],()))]:List aT),()) else none else g a b c (zW zI (d+1)) e f) else h e f
def IX{R:Type}(a b:ag)(c:ag->Option R):Option R:=
 c b
def Z6:Nat->Int->al->Int->Int->ag->ag->Option (ag×ag)
 |0,_,_,_,_,_,_=>none
 |k+1,v0,v1,v2,v3,v4,v5=>IW v0 v1 v2 v3 v4 v5 (λa0 a1 a2 a3 a4 a5=>Z6 k a0 a1 a2 a3 a4 a5) (λa0 a1=>some (a0,a1))
def vw(a:ag)(b:Int):Option ag:=
 zpz a b (λa0 a1 a2 a3 a4 a5=>(Z6 af a0 a1 a2 a3 a4 a5).bind λe=>IX e.1 e.2 (λa0=>some a0))
def IV{R:Type}(a:aT)(b:Int)(c:Bool->Int->Option R):Option R:=
 c (decide (b<a.1)) b
def vv(a:aT)(b:Int):Option (Bool×Int):=
 IV a b (λa0 a1=>some (a0,a1))
def zr7{R:Type}(a:al)(b:Int)(c:al->Int->Int->Int->Option R):Option R:=
 c a ((aa a):Int) 0 b
def Jr{R:Type}(a:al)(b c d:Int)(e:Int->Int->Option R)(f:al->Int->Int->Int->Option R)(g:Int->Option R):Option R:=
 bif c<b then zd c (aa a) ((vv (an a c.toNat (0,bs [],())) d).bind λr1=>bif r1.1 then e c r1.2 else f a b (zW zI (c+1)) r1.2) else g d
def Js{R:Type}(a b:Int)(c:Int->Int->Option R):Option R:=
 c a b
def Jt{R:Type}(a:Int)(b:Int->Int->Option R):Option R:=
 b (-1:Int) a
def ze4:Nat->al->Int->Int->Int->Option (Sum (Int×Int) Int)
 |0,_,_,_,_=>none
 |k+1,v0,v1,v2,v3=>Jr v0 v1 v2 v3 (λa0 a1=>some (.inl (a0,a1))) (λa0 a1 a2 a3=>ze4 k a0 a1 a2 a3) (λa0=>some (.inr a0))
def vL(a:al)(b:Int):Option (Int×Int):=
 zr7 a b (λa0 a1 a2 a3=>(ze4 af a0 a1 a2 a3).bind λe=>GB (λ(we:(Int×Int))=>Js we.1 we.2 (λa0 a1=>some (a0,a1))) (λ(we:Int)=>Jt we (λa0 a1=>some (a0,a1))) e)
def zpx{R:Type}(a:ag)(b:Int)(c:ByteArray)(d:ag->Option R):Option R:=
 (vw a b).bind λr1=>(vL r1.2.1 b).bind λr2=>bif r2.1<0 then bif zW zI (((aa r1.2.1):Int)+1)=zW zI (((aa r1.2.1):Int)+1) then bif 0<=zW zI (((aa r1.2.1):Int)+1) then bif zW zI (((aa r1.2.1):Int)+1)*24<=140737488355328 then bif 0<=((aa r1.2.1):Int) then bif((aa r1.2.1):Int)<=(((aa r1.2.1):Nat):Int) then bif xz (zW zI (((aa r1.2.1):Int)+(1:Int))).toNat (aa (so (zW zI (((aa r1.2.1):Int)+(1:Int))).toNat ((0:Int),bs [],()))) then zd ((aa r1.2.1):Int) (zW zI (((aa r1.2.1):Int)+(1:Int))).toNat (bif zaL ((((aa r1.2.1):Int)).toNat+1) (aa (ci (so (zW zI (((aa r1.2.1):Int)+(1:Int))).toNat ((0:Int),bs [],())) (It (zW zI (((aa r1.2.1):Int)+(1:Int))).toNat (zac 0 (It (((aa r1.2.1):Int)).toNat r1.2.1))) 0)) then bif 0<=zW zI (((aa r1.2.1):Int)+1) then bif zW zI (((aa r1.2.1):Int)+1)<=(((zW zI (((aa r1.2.1):Int)+(1:Int))).toNat:Nat):Int) then bif 0<=((aa r1.2.1):Int) then bif((aa r1.2.1):Int)<=(((aa r1.2.1):Nat):Int) then bif xz (zW zI (((aa r1.2.1):Int)+(1:Int))).toNat (aa (za1 (ci (so (zW zI (((aa r1.2.1):Int)+(1:Int))).toNat ((0:Int),bs [],())) (It (zW zI (((aa r1.2.1):Int)+(1:Int))).toNat (zac 0 (It (((aa r1.2.1):Int)).toNat r1.2.1))) 0) (((aa r1.2.1):Int)).toNat (r2.2,c,()))) then bif zaL (zW zI (((aa r1.2.1):Int)+(1:Int))).toNat (zW zI (((aa r1.2.1):Int)+(1:Int))).toNat then bif xz (zW zI (((aa r1.2.1):Int)+(1:Int))).toNat (aa (ci (za1 (ci (so (zW zI (((aa r1.2.1):Int)+(1:Int))).toNat ((0:Int),bs [],())) (It (zW zI (((aa r1.2.1):Int)+(1:Int))).toNat (zac 0 (It (((aa r1.2.1):Int)).toNat r1.2.1))) 0) (((aa r1.2.1):Int)).toNat (r2.2,c,())) (It ((zW zI (((aa r1.2.1):Int)+(1:Int))).toNat-(zW zI (((aa r1.2.1):Int)+(1:Int))).toNat) (zac (((aa r1.2.1):Int)).toNat (It (aa r1.2.1) r1.2.1))) (zW zI (((aa r1.2.1):Int)+(1:Int))).toNat)) then d (a.1,ci (za1 (ci (so (zW zI (((aa r1.2.1):Int)+(1:Int))).toNat (0,bs [],())) (It (zW zI (((aa r1.2.1):Int)+(1:Int))).toNat (zac 0 (It (((aa r1.2.1):Int)).toNat r1.2.1))) 0) (((aa r1.2.1):Int)).toNat (r2.2,c,())) (It ((zW zI (((aa r1.2.1):Int)+(1:Int))).toNat-(zW zI (((aa r1.2.1):Int)+(1:Int))).toNat) (zac (((aa r1.2.1):Int)).toNat (It (aa r1.2.1) r1.2.1))) (zW zI (((aa r1.2.1):Int)+(1:Int))).toNat,()) else none else none else none else none else none else none else none else none) else none else none else none else none else none else none else bif zW zI (((aa r1.2.1):Int)+1)=zW zI (((aa r1.2.1):Int)+1) then bif 0<=zW zI (((aa r1.2.1):Int)+1) then bif zW zI (((aa r1.2.1):Int)+1)*24<=140737488355328 then bif 0<=r2.1 then bif r2.1<=(((aa r1.2.1):Nat):Int) then bif xz (zW zI (((aa r1.2.1):Int)+(1:Int))).toNat (aa (so (zW zI (((aa r1.2.1):Int)+(1:Int))).toNat ((0:Int),bs [],()))) then zd r2.1 (zW zI (((aa r1.2.1):Int)+(1:Int))).toNat (bif zaL (r2.1.toNat+1) (aa (ci (so (zW zI (((aa r1.2.1):Int)+(1:Int))).toNat ((0:Int),bs [],())) (It (zW zI (((aa r1.2.1):Int)+(1:Int))).toNat (zac 0 (It r2.1.toNat r1.2.1))) 0)) then bif 0<=zW zI (r2.1+1) then bif zW zI (r2.1+1)<=(((zW zI (((aa r1.2.1):Int)+(1:Int))).toNat:Nat):Int) then bif 0<=r2.1 then bif r2.1<=(((aa r1.2.1):Nat):Int) then bif xz (zW zI (((aa r1.2.1):Int)+(1:Int))).toNat (aa (za1 (ci (so (zW zI (((aa r1.2.1):Int)+(1:Int))).toNat ((0:Int),bs [],())) (It (zW zI (((aa r1.2.1):Int)+(1:Int))).toNat (zac 0 (It r2.1.toNat r1.2.1))) 0) r2.1.toNat (r2.2,c,()))) then bif zaL (zW zI (r2.1+(1:Int))).toNat (zW zI (((aa r1.2.1):Int)+(1:Int))).toNat then bif xz (zW zI (((aa r1.2.1):Int)+(1:Int))).toNat (aa (ci (za1 (ci (so (zW zI (((aa r1.2.1):Int)+(1:Int))).toNat ((0:Int),bs [],())) (It (zW zI (((aa r1.2.1):Int)+(1:Int))).toNat (zac 0 (It r2.1.toNat r1.2.1))) 0) r2.1.toNat (r2.2,c,())) (It ((zW zI (((aa r1.2.1):Int)+(1:Int))).toNat-(zW zI (r2.1+(1:Int))).toNat) (zac r2.1.toNat (It (aa r1.2.1) r1.2.1))) (zW zI (r2.1+(1:Int))).toNat)) then d (a.1,ci (za1 (ci (so (zW zI (((aa r1.2.1):Int)+(1:Int))).toNat (0,bs [],())) (It (zW zI (((aa r1.2.1):Int)+(1:Int))).toNat (zac 0 (It r2.1.toNat r1.2.1))) 0) r2.1.toNat (r2.2,c,())) (It ((zW zI (((aa r1.2.1):Int)+(1:Int))).toNat-(zW zI (r2.1+(1:Int))).toNat) (zac r2.1.toNat (It (aa r1.2.1) r1.2.1))) (zW zI (r2.1+(1:Int))).toNat,()) else none else none else none else none else none else none else none else none) else none else none else none else none else none else none
def iO(a:ag)(b:Int)(c:ByteArray):Option ag:=
 zpx a b c (λa0=>some a0)
def zps{R:Type}(a:ah)(b:ag)(c:aH->Option R)(d:Int->al->Int->Int->ah->aH->Option R):Option R:=
 (nB a).bind λr1=>bif !decide (r1.1=0) then c (1,(-1:Int),()) else(ke b.1).bind λr2=>bif !r2.2 then c (7,0,()) else bif !decide (r2.1=a.2.1) then c (7,0,()) else d 0 b.2.1 ((aa b.2.1):Int) 0 a (0,0,())
def IG{R:Type}(a:Int)(b:al)(c d:Int)(e:ah)(f:aH)(g:aH->Option R)(h:Int->al->Int->Int->ah->aH->Option R)(i:aH->Option R):Option R:=
 bif d<c then zd d (aa b) (bif(an b d.toNat (0,bs [],())).1<=a then g (11,(an b d.toNat (0,bs [],())).1,()) else(gk e (an b d.toNat (0,bs [],())).1).bind λr3=>bif !r3.2 then g (9,(an b d.toNat (0,bs [],())).1,()) else(cf r3.1 (an b d.toNat (0,bs [],())).2.1).bind λr4=>bif !decide (r4=0) then g (r4,(an b d.toNat (0,bs [],())).1,()) else h (an b d.toNat (0,bs [],())).1 b c (zW zI (d+1)) e f) else i f
def II{R:Type}(a:aH)(b:aH->Option R):Option R:=
 b a
def IJ{R:Type}(a:aH)(b:aH->Option R):Option R:=
 b (0,0,())
def Z3:Nat->Int->al->Int->Int->ah->aH->Option (Sum aH aH)
 |0,_,_,_,_,_,_=>none
 |k+1,v0,v1,v2,v3,v4,v5=>IG v0 v1 v2 v3 v4 v5 (λa0=>some (.inl a0)) (λa0 a1 a2 a3 a4 a5=>Z3 k a0 a1 a2 a3 a4 a5) (λa0=>some (.inr a0))
def s6(a:ah)(b:ag):Option aH:=
 zps a b (λa0=>some a0) (λa0 a1 a2 a3 a4 a5=>(Z3 af a0 a1 a2 a3 a4 a5).bind λe=>GB (λ(we:aH)=>II we (λa0=>some a0)) (λ(we:aH)=>IJ we (λa0=>some a0)) e)
def zpw{R:Type}(a:ag)(b:al->Int->Int->aH->aH->Option R):Option R:=
 b a.2.1 ((aa a.2.1):Int) 0 (0,0,()) (0,0,())
def IQ{R:Type}(a:al)(b c:Int)(d e:aH)(f:al->Int->Int->aH->aH->Option R)(g:aH->aH->Option R):Option R:=
 bif c<b then zd c (aa a) ((C4 e (an a c.toNat (0,bs [],())).1).bind λr1=>f a b (zW zI (c+1)) d r1) else g d e
def IU{R:Type}(a b:aH)(c:aH->Option R):Option R:=
 c b
def Z5:Nat->al->Int->Int->aH->aH->Option (aH×aH)
 |0,_,_,_,_,_=>none
 |k+1,v0,v1,v2,v3,v4=>IQ v0 v1 v2 v3 v4 (λa0 a1 a2 a3 a4=>Z5 k a0 a1 a2 a3 a4) (λa0 a1=>some (a0,a1))
def vu(a:ag):Option aH:=
 zpw a (λa0 a1 a2 a3 a4=>(Z5 af a0 a1 a2 a3 a4).bind λe=>IU e.1 e.2 (λa0=>some a0))
def zr9{R:Type}(a:(List Int))(b:Int)(c:(List Int)->Int->Int->Int->Option R):Option R:=
 c a b ((aa a):Int) 0
def Jv{R:Type}(a:(List Int))(b c d:Int)(e:Int->Option R)(f:(List Int)->Int->Int->Int->Option R)(g:Option R):Option R:=
 bif d<c then zd d (aa a) (bif b=an a d.toNat 0 then e d else f a b c (zW zI (d+1))) else g
def Jw{R:Type}(a:Int)(b:Int->Option R):Option R:=
 b a
def Jx{R:Type}(a:Int->Option R):Option R:=
 a (-1:Int)
def ze5:Nat->(List Int)->Int->Int->Int->Option (Sum Int Unit)
 |0,_,_,_,_=>none
 |k+1,v0,v1,v2,v3=>Jv v0 v1 v2 v3 (λa0=>some (.inl a0)) (λa0 a1 a2 a3=>ze5 k a0 a1 a2 a3) (some (.inr ()))
def yG(a:(List Int))(b:Int):Option Int:=
 zr9 a b (λa0 a1 a2 a3=>(ze5 af a0 a1 a2 a3).bind λe=>GB (λ(we:Int)=>Jw we (λa0=>some a0)) (λ(we:Unit)=>Jx (λa0=>some a0)) e)
def zr3{R:Type}(a:(List Int))(b:Int)(c:Bool->Option R):Option R:=
 (yG a b).bind λr1=>c (decide (0<=r1))
def vJ(a:(List Int))(b:Int):Option Bool:=
 zr3 a b (λa0=>some a0)
def zqm{R:Type}(a:ay)(b:Int)(c:Int->Option R):Option R:=
 zd b (aa a.2.2.1) ((gk a.1 (an a.2.2.1 b.toNat (0:Int))).bind λr1=>bif !r1.2 then c 9 else bif an a.2.2.1 b.toNat 0=39 then c 1 else bif 0<=b then bif b<=(((aa a.2.2.1):Nat):Int) then(vJ (zac 0 (It b.toNat a.2.2.1)) (an a.2.2.1 b.toNat (0:Int))).bind λr2=>bif r2 then c 10 else c 0 else none else none)
def vF(a:ay)(b:Int):Option Int:=
 zqm a b (λa0=>some a0)
def zql{R:Type}(a b:aT)(c:Bool->aT->Option R):Option R:=
 c (decide (a.1=b.1)) b
def tc(a b:aT):Option (Bool×aT):=
 zql a b (λa0 a1=>some (a0,a1))
def zr5{R:Type}(a:al)(b:aT)(c:al->Int->Int->aT->Option R):Option R:=
 c a ((aa a):Int) 0 b
def Jn{R:Type}(a:al)(b c:Int)(d:aT)(e:Int->aT->Option R)(f:al->Int->Int->aT->Option R)(g:aT->Option R):Option R:=
 bif c<b then zd c (aa a) ((tc (an a c.toNat (0,bs [],())) d).bind λr1=>bif r1.1 then e c r1.2 else f a b (zW zI (c+1)) r1.2) else g d
def Jo{R:Type}(a:Int)(b:aT)(c:Int->aT->Option R):Option R:=
 c a b
def Jp{R:Type}(a:aT)(b:Int->aT->Option R):Option R:=
 b (-1:Int) a
def ze3:Nat->al->Int->Int->aT->Option (Sum (Int×aT) aT)
 |0,_,_,_,_=>none
 |k+1,v0,v1,v2,v3=>Jn v0 v1 v2 v3 (λa0 a1=>some (.inl (a0,a1))) (λa0 a1 a2 a3=>ze3 k a0 a1 a2 a3) (λa0=>some (.inr a0))
def yF(a:al)(b:aT):Option (Int×aT):=
 zr5 a b (λa0 a1 a2 a3=>(ze3 af a0 a1 a2 a3).bind λe=>GB (λ(we:(Int×aT))=>Jo we.1 we.2 (λa0 a1=>some (a0,a1))) (λ(we:aT)=>Jp we (λa0 a1=>some (a0,a1))) e)
def zr2{R:Type}(a:al)(b:aT)(c:Bool->aT->Option R):Option R:=
 (yF a b).bind λr1=>c (decide (0<=r1.1)) r1.2
def vI(a:al)(b:aT):Option (Bool×aT):=
 zr2 a b (λa0 a1=>some (a0,a1))
def zqk{R:Type}(a:ay)(b:Int)(c:aA)(d:Int->Option R):Option R:=
 zd b (aa a.2.2.2.1) (bif(an a.2.2.2.1 b.toNat (0,bs [],())).1<0 then d 1 else bif 16<(an a.2.2.2.1 b.toNat (0,bs [],())).1 then d 1 else bif 0<=b then bif b<=(((aa a.2.2.2.1):Nat):Int) then(vI (zac 0 (It b.toNat a.2.2.2.1)) (an a.2.2.2.1 b.toNat (0,bs [],()))).bind λr1=>bif r1.1 then d 10 else(cf c r1.2.2.1).bind λr2=>d r2 else none else none)
def vE(a:ay)(b:Int)(c:aA):Option Int:=
 zqk a b c (λa0=>some a0)
def zqd{R:Type}(a:ay)(b:Int->Int->Int->Option R)(c:Int->Int->ay->aA->Option R):Option R:=
 (nB a.1).bind λr1=>bif !decide (r1.1=0) then b 1 1 0 else(gk a.1 (39:Int)).bind λr2=>bif !r2.2 then b 9 1 1 else c ((aa a.2.2.1):Int) 0 a r2.1
def zdx{R:Type}(a b:Int)(c:ay)(d:aA)(e:Int->Int->Int->ay->aA->Option R)(f:Int->Int->ay->aA->Option R)(g:ay->aA->Option R):Option R:=
 bif b<a then(vF c b).bind λr3=>bif !decide (r3=0) then e r3 2 b c d else f a (zW zI (b+1)) c d else g c d
def I4{R:Type}(a b c:Int)(d:ay)(e:aA)(f:Int->Int->Int->Option R):Option R:=
 f a b c
def zqe{R:Type}(a:ay)(b:aA)(c:Bool->al->Int->Int->ay->aA->Option R):Option R:=
 c false a.2.2.2.1 ((aa a.2.2.2.1):Int) 0 a b
def zdy{R:Type}(a:Bool)(b:al)(c d:Int)(e:ay)(f:aA)(g:Int->Int->Int->Bool->ay->Option R)(h:Bool->al->Int->Int->ay->aA->Option R)(i:Bool->ay->Option R):Option R:=
 bif d<c then zd d (aa b) ((vE e d f).bind λr4=>bif !decide (r4=0) then g r4 3 d a e else bif a then h true b c (zW zI (d+1)) e f else h (decide ((an b d.toNat (0,bs [],())).1=0)) b c (zW zI (d+1)) e f) else i a e
def I5{R:Type}(a b c:Int)(d:Bool)(e:ay)(f:Int->Int->Int->Option R):Option R:=
 f a b c
def zqf{R:Type}(a:Bool)(b:ay)(c:Int->Int->Int->Option R):Option R:=
 bif !a then c 15 3 ((aa b.2.2.2.1):Int) else c 0 0 0
def Mu:Nat->Int->Int->ay->aA->Option (Sum (Int×Int×Int×ay×aA) (ay×aA))
 |0,_,_,_,_=>none
 |k+1,v0,v1,v2,v3=>zdx v0 v1 v2 v3 (λa0 a1 a2 a3 a4=>some (.inl (a0,a1,a2,a3,a4))) (λa0 a1 a2 a3=>Mu k a0 a1 a2 a3) (λa0 a1=>some (.inr (a0,a1)))
def Mv:Nat->Bool->al->Int->Int->ay->aA->Option (Sum (Int×Int×Int×Bool×ay) (Bool×ay))
 |0,_,_,_,_,_,_=>none
 |k+1,v0,v1,v2,v3,v4,v5=>zdy v0 v1 v2 v3 v4 v5 (λa0 a1 a2 a3 a4=>some (.inl (a0,a1,a2,a3,a4))) (λa0 a1 a2 a3 a4 a5=>Mv k a0 a1 a2 a3 a4 a5) (λa0 a1=>some (.inr (a0,a1)))
def vC(a:ay):Option jy:=
 zqd a (λa0 a1 a2=>some (a0,a1,a2)) (λa0 a1 a2 a3=>(Mu af a0 a1 a2 a3).bind λe=>GB (λ(we:(Int×Int×Int×ay×aA))=>I4 we.1 we.2.1 we.2.2.1 we.2.2.2.1 we.2.2.2.2 (λa0 a1 a2=>some (a0,a1,a2))) (λ(we:(ay×aA))=>zqe we.1 we.2 (λa0 a1 a2 a3 a4 a5=>(Mv af a0 a1 a2 a3 a4 a5).bind λe=>GB (λ(we:(Int×Int×Int×Bool×ay))=>I5 we.1 we.2.1 we.2.2.1 we.2.2.2.1 we.2.2.2.2 (λa0 a1 a2=>some (a0,a1,a2))) (λ(we:(Bool×ay))=>zqf we.1 we.2 (λa0 a1 a2=>some (a0,a1,a2))) e)) e)
def zqi{R:Type}(a:ay)(b:Int)(c:(List Int)->Int->Int->ay->Option R):Option R:=
 c ([b,0]:List Int) ((aa ([b,(0:Int)]:List Int)):Int) 0 a
def zdz{R:Type}(a:(List Int))(b c:Int)(d:ay)(e:Int->(List Int)->Int->Int->al->Int->Int->ay->Option R)(f:Option R):Option R:=
 bif c<b then zd c (aa a) (e (an a c.toNat 0) a b c d.2.2.2.1 ((aa d.2.2.2.1):Int) 0 d) else f
def I8{R:Type}(a:ByteArray->Option R):Option R:=
 a (bs [])
def I9{R:Type}(a:Int)(b:(List Int))(c d:Int)(e:al)(f g:Int)(h:ay)(i:ByteArray->(List Int)->Int->Int->ay->Option R)(j:Int->(List Int)->Int->Int->al->Int->Int->ay->Option R)(l:(List Int)->Int->Int->ay->Option R):Option R:=
 bif g<f then zd g (aa e) (bif(an e g.toNat (0,bs [],())).1=a then i (an e g.toNat (0,bs [],())).2.1 b c d h else j a b c d e f (zW zI (g+1)) h) else l b c d h
def Ja{R:Type}(a:ByteArray)(b:(List Int))(c d:Int)(e:ay)(f:ByteArray->Option R):Option R:=
 f a
def zqj{R:Type}(a:(List Int))(b c:Int)(d:ay)(e:(List Int)->Int->Int->ay->Option R):Option R:=
 e a b (zW zI (c+1)) d
def Jb{R:Type}(a:ByteArray)(b:ByteArray->Option R):Option R:=
 b a
def Ob:Nat->Int->(List Int)->Int->Int->al->Int->Int->ay->Option (Sum (ByteArray×(List Int)×Int×Int×ay) ((List Int)×Int×Int×ay))
 |0,_,_,_,_,_,_,_,_=>none
 |k+1,v0,v1,v2,v3,v4,v5,v6,v7=>I9 v0 v1 v2 v3 v4 v5 v6 v7 (λa0 a1 a2 a3 a4=>some (.inl (a0,a1,a2,a3,a4))) (λa0 a1 a2 a3 a4 a5 a6 a7=>Ob k a0 a1 a2 a3 a4 a5 a6 a7) (λa0 a1 a2 a3=>some (.inr (a0,a1,a2,a3)))
def Fy:Nat->(List Int)->Int->Int->ay->Option (Sum Unit ByteArray)
 |0,_,_,_,_=>none
 |k+1,v0,v1,v2,v3=>zdz v0 v1 v2 v3 (λa0 a1 a2 a3 a4 a5 a6 a7=>(Ob af a0 a1 a2 a3 a4 a5 a6 a7).bind λe=>GB (λ(we:(ByteArray×(List Int)×Int×Int×ay))=>Ja we.1 we.2.1 we.2.2.1 we.2.2.2.1 we.2.2.2.2 (λa0=>some (.inr a0))) (λ(we:((List Int)×Int×Int×ay))=>zqj we.1 we.2.1 we.2.2.1 we.2.2.2 (λa0 a1 a2 a3=>Fy k a0 a1 a2 a3)) e) (some (.inl ()))
def vD(a:ay)(b:Int):Option ByteArray:=
 zqi a b (λa0 a1 a2 a3=>(Fy af a0 a1 a2 a3).bind λe=>GB (λ(we:Unit)=>I8 (λa0=>some a0)) (λ(we:ByteArray)=>Jb we (λa0=>some a0)) e)
def zq9{R:Type}(a:ay)(b:ag)(c:aH)(d:ag->Bool->Option R)(e:(List Int)->Int->Int->ay->ag->aH->ag->ag->Option R):Option R:=
 (vz b.1).bind λr1=>bif !r1.2 then d (bs [],[],()) false else e a.2.2.1 ((aa a.2.2.1):Int) 0 a b c (bs [],[],()) (r1.1,[],())
def I1{R:Type}(a:(List Int))(b c:Int)(d:ay)(e:ag)(f:aH)(g h:ag)(i:(List Int)->Int->Int->ay->ag->aH->ag->ag->Option R)(j:ay->aH->ag->ag->Option R):Option R:=
 bif c<b then zd c (aa a) ((pj e (an a c.toNat (0:Int))).bind λr2=>bif r2.2 then(iO h (an a c.toNat 0) r2.1).bind λr3=>i a b (zW zI (c+1)) d e f g r3 else i a b (zW zI (c+1)) d e f g h) else j d f g h
def zqa{R:Type}(a:ay)(b:aH)(c d:ag)(e:ag->Bool->Option R):Option R:=
 (vD a b.1).bind λr4=>(iO d 39 r4).bind λr5=>e r5 true
def Z9:Nat->(List Int)->Int->Int->ay->ag->aH->ag->ag->Option (ay×aH×ag×ag)
 |0,_,_,_,_,_,_,_,_=>none
 |k+1,v0,v1,v2,v3,v4,v5,v6,v7=>I1 v0 v1 v2 v3 v4 v5 v6 v7 (λa0 a1 a2 a3 a4 a5 a6 a7=>Z9 k a0 a1 a2 a3 a4 a5 a6 a7) (λa0 a1 a2 a3=>some (a0,a1,a2,a3))
def vB(a:ay)(b:ag)(c:aH):Option (ag×Bool):=
 zq9 a b c (λa0 a1=>some (a0,a1)) (λa0 a1 a2 a3 a4 a5 a6 a7=>(Z9 af a0 a1 a2 a3 a4 a5 a6 a7).bind λe=>zqa e.1 e.2.1 e.2.2.1 e.2.2.2 (λa0 a1=>some (a0,a1)))
def zrg{R:Type}(a:ah)(b:ByteArray)(c:ByteArray->Int->Int->Option R):Option R:=
 bif a.1=2 then(Q2 (4:Int)).bind λr1=>bif(b.size:Int)<r1 then c (bs []) 0 2 else bif 0<=r1 then bif r1<=(b.size:Int) then bif a.1=2 then(Q0 (b.extract 0 r1.toNat) (4:Int)).bind λr2=>(ke r2.1).bind λr3=>bif !r3.2 then c (bs []) 0 7 else bif !decide (r3.1=a.2.1) then c (bs []) 0 7 else c r2.1 r1 0 else(ke (b.extract 0 r1.toNat)).bind λr4=>bif !r4.2 then c (bs []) 0 7 else bif !decide (r4.1=a.2.1) then c (bs []) 0 7 else c (b.extract 0 r1.toNat) r1 0 else none else none else bif(b.size:Int)<4 then c (bs []) 0 2 else bif 4<=(b.size:Int) then bif a.1=2 then(Q0 (b.extract 0 ((4:Int)).toNat) (4:Int)).bind λr5=>(ke r5.1).bind λr6=>bif !r6.2 then c (bs []) 0 7 else bif !decide (r6.1=a.2.1) then c (bs []) 0 7 else c r5.1 4 0 else(ke (b.extract 0 ((4:Int)).toNat)).bind λr7=>bif !r7.2 then c (bs []) 0 7 else bif !decide (r7.1=a.2.1) then c (bs []) 0 7 else c (b.extract 0 ((4:Int)).toNat) 4 0 else none
def vM(a:ah)(b:ByteArray):Option jM:=
 zrg a b (λa0 a1 a2=>some (a0,a1,a2))
def zrf{R:Type}(a:ah)(b:ByteArray)(c:ag->aH->Option R)(d:ByteArray->Int->Int->ah->ag->aH->ag->aH->Option R):Option R:=
 (nB a).bind λr1=>bif !decide (r1.1=0) then c (bs [],[],()) (1,(-1:Int),()) else(vM a b).bind λr2=>bif !decide (r2.2.2=0) then c (bs [],[],()) (r2.2.2,0,()) else(Q5 a.1 b r2.2.1).bind λr3=>bif !decide (r3.2.2=0) then c (r2.1,[],()) (r3.2.2,1,()) else(Nc r3.1 (0:Int)).bind λr4=>d b r3.2.1 r4 a (bs [],[],()) (0,0,()) (r2.1,[],()) r3.1
def ze6{R:Type}(a:ByteArray)(b c:Int)(d:ah)(e:ag)(f:aH)(g:ag)(h:aH)(i:ByteArray->Int->ag->aH->ag->Option R)(j:ByteArray->Int->Int->ah->ag->aH->ag->aH->Option R)(l:ByteArray->Int->ag->aH->ag->Option R):Option R:=
 bif !decide (c=0) then(gk d c).bind λr5=>bif !r5.2 then i a b g (9,c,()) g else(Pa d.1 r5.1 a b).bind λr6=>bif !decide (r6.2.2=0) then i a b g (r6.2.2,c,()) g else bif(aa g.2.1+aa ([(c,r6.1,())]:List aT))*24<=140737488355328 then(Nc h c).bind λr7=>j a r6.2.1 r7 d e f (g.1,g.2.1++([(c,r6.1,())]:List aT),()) h else none else l a b e f g
def Jz{R:Type}(a:ByteArray)(b:Int)(c:ag)(d:aH)(e:ag)(f:ag->aH->Option R):Option R:=
 f c d
def JA{R:Type}(a:ByteArray)(b:Int)(c:ag)(d:aH)(e:ag)(f:ag->aH->Option R):Option R:=
 bif b<(a.size:Int) then f e (12,129,()) else f e (0,0,())
def Mx:Nat->ByteArray->Int->Int->ah->ag->aH->ag->aH->Option (Sum ki ki)
 |0,_,_,_,_,_,_,_,_=>none
 |k+1,v0,v1,v2,v3,v4,v5,v6,v7=>ze6 v0 v1 v2 v3 v4 v5 v6 v7 (λa0 a1 a2 a3 a4=>some (.inl (a0,a1,a2,a3,a4))) (λa0 a1 a2 a3 a4 a5 a6 a7=>Mx k a0 a1 a2 a3 a4 a5 a6 a7) (λa0 a1 a2 a3 a4=>some (.inr (a0,a1,a2,a3,a4)))
def te(a:ah)(b:ByteArray):Option wh:=
 zrf a b (λa0 a1=>some (a0,a1)) (λa0 a1 a2 a3 a4 a5 a6 a7=>(Mx af a0 a1 a2 a3 a4 a5 a6 a7).bind λe=>GB (λ(we:ki)=>Jz we.1 we.2.1 we.2.2.1 we.2.2.2.1 we.2.2.2.2 (λa0 a1=>some (a0,a1))) (λ(we:ki)=>JA we.1 we.2.1 we.2.2.1 we.2.2.2.1 we.2.2.2.2 (λa0 a1=>some (a0,a1))) e)
def zry{R:Type}(a:Int)(b:ByteArray)(c:ByteArray->Bool->Option R):Option R:=
 (pn b).bind λr1=>bif !r1 then c (bs []) false else bif a=1 then c b true else bif a=2 then(Q1 b).bind λr2=>c r2.1 r2.2 else c (bs []) false
def vR(a:Int)(b:ByteArray):Option iH:=
 zry a b (λa0 a1=>some (a0,a1))
def zrx{R:Type}(a b:ByteArray)(c:ByteArray->Option R):Option R:=
 (z23 b a).bind λr1=>c r1.2
def kL(a b:ByteArray):Option ByteArray:=
 zrx a b (λa0=>some a0)
def zrw{R:Type}(a:ah)(b:ag)(c:ByteArray->aH->Option R)(d:al->Int->Int->ah->aH->ByteArray->Option R):Option R:=
 (s6 a b).bind λr1=>bif !decide (r1.1=0) then c (bs []) r1 else(vR a.1 b.1).bind λr2=>(kL r2.1 (bs [])).bind λr3=>(vu b).bind λr4=>(Q6 a.1 r4).bind λr5=>(kL r5.1 r3).bind λr6=>d b.2.1 ((aa b.2.1):Int) 0 a (0,0,()) r6
def JF{R:Type}(a:al)(b c:Int)(d:ah)(e:aH)(f:ByteArray)(g:al->Int->Int->ah->aH->ByteArray->Option R)(h:aH->ByteArray->Option R):Option R:=
 bif c<b then zd c (aa a) ((gk d (an a c.toNat (0,bs [],())).1).bind λr7=>(FP d.1 r7.1 (an a c.toNat (0,bs [],())).2.1).bind λr8=>(kL r8.1 f).bind λr9=>g a b (zW zI (c+1)) d e r9) else h e f
def JG{R:Type}(a:aH)(b:ByteArray)(c:ByteArray->aH->Option R):Option R:=
 (z60 b).bind λj4=>c j4.1 (0,0,())
def ze7:Nat->al->Int->Int->ah->aH->ByteArray->Option (aH×ByteArray)
 |0,_,_,_,_,_,_=>none
 |k+1,v0,v1,v2,v3,v4,v5=>JF v0 v1 v2 v3 v4 v5 (λa0 a1 a2 a3 a4 a5=>ze7 k a0 a1 a2 a3 a4 a5) (λa0 a1=>some (a0,a1))
def pu(a:ah)(b:ag):Option (ByteArray×aH):=
 zrw a b (λa0 a1=>some (a0,a1)) (λa0 a1 a2 a3 a4 a5=>(ze7 af a0 a1 a2 a3 a4 a5).bind λe=>JG e.1 e.2 (λa0 a1=>some (a0,a1)))
def zqt{R:Type}(a:aN)(b c:ah)(d:aA->aA->Int->Option R):Option R:=
 (gk b a.2.1).bind λr1=>(gk c a.2.2.1).bind λr2=>bif a.1=3 then bif a.1=2 then bif !decide (a.2.1=0) then d r1.1 r2.1 9 else bif !decide (a.2.2.1=0) then d r1.1 r2.1 9 else d r1.1 r2.1 0 else bif !decide (a.2.1=0) then d r1.1 r2.1 9 else bif !r2.2 then d r1.1 r2.1 9 else d r1.1 r2.1 0 else bif a.1=2 then bif !r1.2 then d r1.1 r2.1 9 else bif !decide (a.2.2.1=0) then d r1.1 r2.1 9 else d r1.1 r2.1 0 else bif !r1.2 then d r1.1 r2.1 9 else bif !r2.2 then d r1.1 r2.1 9 else d r1.1 r2.1 0
def vH(a:aN)(b c:ah):Option (aA×aA×Int):=
 zqt a b c (λa0 a1 a2=>some (a0,a1,a2))
def zqu{R:Type}(a:aA)(b:Bool->Option R):Option R:=
 bif a.2.1=1 then b (decide (a.2.2.1=1)) else b false
def kf(a:aA):Option Bool:=
 zqu a (λa0=>some a0)
def zqw{R:Type}(a:bd)(b c:aA)(d:Int->Option R)(e:bd->Int->Int->aA->aA->Option R):Option R:=
 (Pg a).bind λr1=>bif !decide (r1.1=0) then d 15 else bif((aa a):Int)=0 then d 15 else e a ((aa a):Int) 0 b c
def z175{R:Type}(a:bd)(b c:Int)(d e:aA)(f:Int->Option R)(g:bd->Int->Int->aA->aA->Option R)(h:Option R):Option R:=
 bif c<b then zd c (aa a) ((cf d (an a c.toNat (bs [],bs [],())).1).bind λr2=>bif !decide (r2=0) then f r2 else(cf e (an a c.toNat (bs [],bs [],())).2.1).bind λr3=>bif !decide (r3=0) then f r3 else g a b (zW zI (c+1)) d e) else h
def Je{R:Type}(a:Int)(b:Int->Option R):Option R:=
 b a
def Jf{R:Type}(a:Int->Option R):Option R:=
 a 0
def ze0:Nat->bd->Int->Int->aA->aA->Option (Sum Int Unit)
 |0,_,_,_,_,_=>none
 |k+1,v0,v1,v2,v3,v4=>z175 v0 v1 v2 v3 v4 (λa0=>some (.inl a0)) (λa0 a1 a2 a3 a4=>ze0 k a0 a1 a2 a3 a4) (some (.inr ()))
def nA(a:bd)(b c:aA):Option Int:=
 zqw a b c (λa0=>some a0) (λa0 a1 a2 a3 a4=>(ze0 af a0 a1 a2 a3 a4).bind λe=>GB (λ(we:Int)=>Je we (λa0=>some a0)) (λ(we:Unit)=>Jf (λa0=>some a0)) e)
def zqs{R:Type}(a:aN)(b c:ah)(d:Int->Option R):Option R:=
 bif a.1<1 then d 1 else bif 5<a.1 then d 1 else(vH a b c).bind λr1=>bif !decide (r1.2.2=0) then d r1.2.2 else bif !decide (a.2.2.2.1=bs []) then bif !decide (a.1=3) then d 3 else bif 0<((aa a.2.2.2.2.1):Int) then bif !decide (a.1=5) then d 3 else bif a.1=1 then(mN r1.2.1 r1.1).bind λr2=>bif !r2 then d 6 else d 0 else bif a.1=3 then(cf r1.2.1 a.2.2.2.1).bind λr3=>d r3 else bif a.1=4 then(kf r1.1).bind λr4=>bif !r4 then d 6 else(kf r1.2.1).bind λr5=>bif !r5 then d 6 else d 0 else bif a.1=5 then(nA a.2.2.2.2.1 r1.1 r1.2.1).bind λr6=>d r6 else d 0 else bif a.1=1 then(mN r1.2.1 r1.1).bind λr7=>bif !r7 then d 6 else d 0 else bif a.1=3 then(cf r1.2.1 a.2.2.2.1).bind λr8=>d r8 else bif a.1=4 then(kf r1.1).bind λr9=>bif !r9 then d 6 else(kf r1.2.1).bind λj4=>bif !j4 then d 6 else d 0 else bif a.1=5 then(nA a.2.2.2.2.1 r1.1 r1.2.1).bind λjt=>d jt else d 0 else bif 0<((aa a.2.2.2.2.1):Int) then bif !decide (a.1=5) then d 3 else bif a.1=1 then(mN r1.2.1 r1.1).bind λlD=>bif !lD then d 6 else d 0 else bif a.1=3 then(cf r1.2.1 a.2.2.2.1).bind λju=>d ju else bif a.1=4 then(kf r1.1).bind λpV=>bif !pV then d 6 else(kf r1.2.1).bind λsF=>bif !sF then d 6 else d 0 else bif a.1=5 then(nA a.2.2.2.2.1 r1.1 r1.2.1).bind λxk=>d xk else d 0 else bif a.1=1 then(mN r1.2.1 r1.1).bind λAX=>bif !AX then d 6 else d 0 else bif a.1=3 then(cf r1.2.1 a.2.2.2.1).bind λAY=>d AY else bif a.1=4 then(kf r1.1).bind λtY=>bif !tY then d 6 else(kf r1.2.1).bind λx9=>bif !x9 then d 6 else d 0 else bif a.1=5 then(nA a.2.2.2.2.1 r1.1 r1.2.1).bind λpW=>d pW else d 0
def pq(a:aN)(b c:ah):Option Int:=
 zqs a b c (λa0=>some a0)
def zqr{R:Type}(a:aN)(b:ah)(c:ByteArray)(d:aT->Int->Option R):Option R:=
 bif a.1=1 then d (a.2.2.1,c,()) 0 else bif a.1=2 then d (0,bs [],()) 0 else bif a.1=3 then d (a.2.2.1,a.2.2.2.1,()) 0 else bif a.1=4 then(gk b a.2.2.1).bind λr1=>bif !r1.2 then d (0,bs [],()) 9 else(Ph c r1.1.2.2.2.1).bind λr2=>bif !r2.2 then d (0,bs [],()) 5 else d (a.2.2.1,r2.1,()) 0 else bif a.1=5 then(Pf a.2.2.2.2.1 c).bind λr3=>bif !r3.2 then d (0,bs [],()) 15 else d (a.2.2.1,r3.1,()) 0 else d (0,bs [],()) 1
def po(a:aN)(b:ah)(c:ByteArray):Option (aT×Int):=
 zqr a b c (λa0 a1=>some (a0,a1))
def zse{R:Type}(a:dK)(b c:ah)(d:Bool->Option R):Option R:=
 (ke a.1).bind λr1=>(ke a.2.1).bind λr2=>bif r1.2 then bif r2.2 then bif r1.1=b.2.1 then bif r2.1=c.2.1 then(pk a.1).bind λr3=>(pk a.2.1).bind λr4=>d (r3==r4) else d false else d false else d false else d false
def pB(a:dK)(b c:ah):Option Bool:=
 zse a b c (λa0=>some a0)
def zs2{R:Type}(a:az)(b c:ah)(d:wg->Int->Int->az->ah->ah->Option R):Option R:=
 d ([b,c]:List ah) ((aa ([b,c]:List ah)):Int) 0 a b c
def zs3{R:Type}(a:wg)(b c:Int)(d:az)(e f:ah)(g:Int->Int->Int->az->ah->ah->Option R)(h:wg->Int->Int->az->ah->ah->Option R)(i:az->ah->ah->Option R):Option R:=
 bif c<b then zd c (aa a) ((nB (an a c.toNat (0,0,[],()))).bind λr1=>bif !decide (r1.1=0) then g 1 1 c d e f else h a b (zW zI (c+1)) d e f) else i d e f
def z182{R:Type}(a b c:Int)(d:az)(e f:ah)(g:Int->Int->Int->Option R):Option R:=
 g a b c
def zs4{R:Type}(a:az)(b c:ah)(d:Int->Int->Int->Option R)(e:bd->Int->Int->az->ah->ah->lN->Option R):Option R:=
 bif 256<((aa a.1):Int) then d 5 2 256 else e a.1 ((aa a.1):Int) 0 a b c []
def z183{R:Type}(a:bd)(b c:Int)(d:az)(e f:ah)(g:lN)(h:Int->Int->Int->az->ah->ah->Option R)(i:bd->Int->Int->az->ah->ah->lN->Option R)(j:az->ah->ah->Option R):Option R:=
 bif c<b then zd c (aa a) ((pB (an a c.toNat (bs [],bs [],())) e f).bind λr2=>bif !r2 then h (7:Int) (2:Int) c d e f else bif fG (gL .str) false g (an a c.toNat (bs [],bs [],())).1 then h (10:Int) (2:Int) c d e f else bif fH (gL .str) g (an a c.toNat (bs [],bs [],())).1 then none else i a b (zW zI (c+(1:Int))) d e f (g++ [((an a c.toNat (bs [],bs [],())).1,true)])) else j d e f
def JK{R:Type}(a b c:Int)(d:az)(e f:ah)(g:Int->Int->Int->Option R):Option R:=
 g a b c
def zs5{R:Type}(a:az)(b c:ah)(d:Int->Int->Int->Option R)(e:cJ->Int->Int->ah->ah->aH->aH->Option R):Option R:=
 bif 256<((aa a.2.1):Int) then d 5 3 256 else e a.2.1 ((aa a.2.1):Int) 0 b c (0,0,()) (0,0,())
def JL{R:Type}(a:cJ)(b c:Int)(d e:ah)(f g:aH)(h:Int->Int->Int->Option R)(i:cJ->Int->Int->ah->ah->aH->aH->Option R)(j:Option R):Option R:=
 bif c<b then zd c (aa a) ((pq (an a c.toNat (0,0,0,bs [],[],())) d e).bind λr3=>bif !decide (r3=0) then h r3 3 c else(xO ([(an a c.toNat (0,0,0,bs [],[],())).2.1]:List Int)).bind λr4=>(xO ([(an a c.toNat (0,0,0,bs [],[],())).2.2.1]:List Int)).bind λr5=>(uw f r4).bind λr6=>bif !(decide (r6.1=0)&&(decide (r6.2.1=0)&&true)) then h 10 3 c else(uw g r5).bind λr7=>bif !(decide (r7.1=0)&&(decide (r7.2.1=0)&&true)) then h 10 3 c else(vT f r4).bind λr8=>(vT g r5).bind λr9=>i a b (zW zI (c+1)) d e r8 r9) else j
def JM{R:Type}(a b c:Int)(d:Int->Int->Int->Option R):Option R:=
 d a b c
def JN{R:Type}(a:Int->Int->Int->Option R):Option R:=
 a 0 0 0
def Oi:Nat->wg->Int->Int->az->ah->ah->Option (Sum mS mR)
 |0,_,_,_,_,_,_=>none
 |k+1,v0,v1,v2,v3,v4,v5=>zs3 v0 v1 v2 v3 v4 v5 (λa0 a1 a2 a3 a4 a5=>some (.inl (a0,a1,a2,a3,a4,a5))) (λa0 a1 a2 a3 a4 a5=>Oi k a0 a1 a2 a3 a4 a5) (λa0 a1 a2=>some (.inr (a0,a1,a2)))
def Oj:Nat->bd->Int->Int->az->ah->ah->lN->Option (Sum mS mR)
 |0,_,_,_,_,_,_,_=>none
 |k+1,v0,v1,v2,v3,v4,v5,v6=>z183 v0 v1 v2 v3 v4 v5 v6 (λa0 a1 a2 a3 a4 a5=>some (.inl (a0,a1,a2,a3,a4,a5))) (λa0 a1 a2 a3 a4 a5 a6=>Oj k a0 a1 a2 a3 a4 a5 a6) (λa0 a1 a2=>some (.inr (a0,a1,a2)))
def ze8:Nat->cJ->Int->Int->ah->ah->aH->aH->Option (Sum jy Unit)
 |0,_,_,_,_,_,_,_=>none
 |k+1,v0,v1,v2,v3,v4,v5,v6=>JL v0 v1 v2 v3 v4 v5 v6 (λa0 a1 a2=>some (.inl (a0,a1,a2))) (λa0 a1 a2 a3 a4 a5 a6=>ze8 k a0 a1 a2 a3 a4 a5 a6) (some (.inr ()))
def tf(a:az)(b c:ah):Option jy:=
 zs2 a b c (λa0 a1 a2 a3 a4 a5=>(Oi af a0 a1 a2 a3 a4 a5).bind λe=>GB (λ(we:mS)=>z182 we.1 we.2.1 we.2.2.1 we.2.2.2.1 we.2.2.2.2.1 we.2.2.2.2.2 (λa0 a1 a2=>some (a0,a1,a2))) (λ(we:mR)=>zs4 we.1 we.2.1 we.2.2 (λa0 a1 a2=>some (a0,a1,a2)) (λa0 a1 a2 a3 a4 a5 a6=>(Oj af a0 a1 a2 a3 a4 a5 a6).bind λe=>GB (λ(we:mS)=>JK we.1 we.2.1 we.2.2.1 we.2.2.2.1 we.2.2.2.2.1 we.2.2.2.2.2 (λa0 a1 a2=>some (a0,a1,a2))) (λ(we:mR)=>zs5 we.1 we.2.1 we.2.2 (λa0 a1 a2=>some (a0,a1,a2)) (λa0 a1 a2 a3 a4 a5 a6=>(ze8 af a0 a1 a2 a3 a4 a5 a6).bind λe=>GB (λ(we:jy)=>JM we.1 we.2.1 we.2.2 (λa0 a1 a2=>some (a0,a1,a2))) (λ(we:Unit)=>JN (λa0 a1 a2=>some (a0,a1,a2))) e)) e)) e)
def zsd{R:Type}(a:az)(b:ByteArray)(c:ByteArray->bd->Int->Int->Option R):Option R:=
 c b a.1 ((aa a.1):Int) 0
def JY{R:Type}(a:ByteArray)(b:bd)(c d:Int)(e:ByteArray->Bool->Option R)(f:ByteArray->bd->Int->Int->Option R)(g:Option R):Option R:=
 bif d<c then zd d (aa b) (bif(an b d.toNat (bs [],bs [],())).1=a then e (an b d.toNat (bs [],bs [],())).2.1 true else f a b c (zW zI (d+1))) else g
def JZ{R:Type}(a:ByteArray)(b:Bool)(c:ByteArray->Bool->Option R):Option R:=
 c a b
def J0{R:Type}(a:ByteArray->Bool->Option R):Option R:=
 a (bs []) false
def zec:Nat->ByteArray->bd->Int->Int->Option (Sum iH Unit)
 |0,_,_,_,_=>none
 |k+1,v0,v1,v2,v3=>JY v0 v1 v2 v3 (λa0 a1=>some (.inl (a0,a1))) (λa0 a1 a2 a3=>zec k a0 a1 a2 a3) (some (.inr ()))
def vS(a:az)(b:ByteArray):Option iH:=
 zsd a b (λa0 a1 a2 a3=>(zec af a0 a1 a2 a3).bind λe=>GB (λ(we:iH)=>JZ we.1 we.2 (λa0 a1=>some (a0,a1))) (λ(we:Unit)=>J0 (λa0 a1=>some (a0,a1))) e)
def zsb{R:Type}(a:az)(b:Int)(c:Int->cJ->Int->Int->aN->Option R):Option R:=
 c b a.2.1 ((aa a.2.1):Int) 0 (0,0,0,bs [],[],())
def JU{R:Type}(a:Int)(b:cJ)(c d:Int)(e:aN)(f:Bool->aN->Option R)(g:Int->cJ->Int->Int->aN->Option R)(h:aN->Option R):Option R:=
 bif d<c then zd d (aa b) (bif(an b d.toNat (0,0,0,bs [],[],())).2.1=a then f true (an b d.toNat (0,0,0,bs [],[],())) else g a b c (zW zI (d+1)) e) else h e
def JV{R:Type}(a:Bool)(b:aN)(c:aN->Bool->Option R):Option R:=
 c b a
def JW{R:Type}(a:aN)(b:aN->Bool->Option R):Option R:=
 b (0,0,0,bs [],[],()) false
def zeb:Nat->Int->cJ->Int->Int->aN->Option (Sum (Bool×aN) aN)
 |0,_,_,_,_,_=>none
 |k+1,v0,v1,v2,v3,v4=>JU v0 v1 v2 v3 v4 (λa0 a1=>some (.inl (a0,a1))) (λa0 a1 a2 a3 a4=>zeb k a0 a1 a2 a3 a4) (λa0=>some (.inr a0))
def pw(a:az)(b:Int):Option (aN×Bool):=
 zsb a b (λa0 a1 a2 a3 a4=>(zeb af a0 a1 a2 a3 a4).bind λe=>GB (λ(we:(Bool×aN))=>JV we.1 we.2 (λa0 a1=>some (a0,a1))) (λ(we:aN)=>JW we (λa0 a1=>some (a0,a1))) e)
def zs8{R:Type}(a:az)(b c:ah)(d:ag)(e:ag->aH->Option R)(f:cJ->Int->Int->az->ah->ag->ag->aH->ag->Option R):Option R:=
 (tf a b c).bind λr1=>bif !decide (r1.1=0) then e (bs [],[],()) (1,(-1:Int),()) else(s6 b d).bind λr2=>bif !decide (r2.1=0) then e (bs [],[],()) r2 else(vS a d.1).bind λr3=>bif !r3.2 then e (bs [],[],()) (7,0,()) else f a.2.1 ((aa a.2.1):Int) 0 a c d (bs [],[],()) (0,0,()) (r3.1,[],())
def JP{R:Type}(a:cJ)(b c:Int)(d:az)(e:ah)(f g:ag)(h:aH)(i:ag)(j:cJ->Int->Int->az->ah->ag->ag->aH->ag->Option R)(l:az->ah->ag->ag->aH->ag->Option R):Option R:=
 bif c<b then zd c (aa a) (bif(an a c.toNat (0,0,0,bs [],[],())).1=3 then(iO i (an a c.toNat (0,0,0,bs [],[],())).2.2.1 (an a c.toNat (0,0,0,bs [],[],())).2.2.2.1).bind λr4=>j a b (zW zI (c+1)) d e f g h r4 else j a b (zW zI (c+1)) d e f g h i) else l d e f g h i
def zs9{R:Type}(a:az)(b:ah)(c d:ag)(e:aH)(f:ag)(g:al->Int->Int->az->ah->ag->aH->ag->Option R):Option R:=
 g c.2.1 ((aa c.2.1):Int) 0 a b d e f
def JQ{R:Type}(a:al)(b c:Int)(d:az)(e:ah)(f:ag)(g:aH)(h:ag)(i:ag->aH->ag->Option R)(j:al->Int->Int->az->ah->ag->aH->ag->Option R)(l:ag->aH->ag->Option R):Option R:=
 bif c<b then zd c (aa a) ((pw d (an a c.toNat (0,bs [],())).1).bind λr5=>bif !r5.2 then i (bs [],[],()) (9,(an a c.toNat (0,bs [],())).1,()) h else(po r5.1 e (an a c.toNat (0,bs [],())).2.1).bind λr6=>bif !decide (r6.2=0) then i (bs [],[],()) (r6.2,(an a c.toNat (0,bs [],())).1,()) h else bif !decide (r6.1.1=0) then(iO h r6.1.1 r6.1.2.1).bind λr7=>j a b (zW zI (c+1)) d e f g r7 else j a b (zW zI (c+1)) d e f g h) else l f g h
def JR{R:Type}(a:ag)(b:aH)(c:ag)(d:ag->aH->Option R):Option R:=
 d a b
def JS{R:Type}(a:ag)(b:aH)(c:ag)(d:ag->aH->Option R):Option R:=
 d c (0,0,())
def ze9:Nat->cJ->Int->Int->az->ah->ag->ag->aH->ag->Option (az×ah×ag×ag×aH×ag)
 |0,_,_,_,_,_,_,_,_,_=>none
 |k+1,v0,v1,v2,v3,v4,v5,v6,v7,v8=>JP v0 v1 v2 v3 v4 v5 v6 v7 v8 (λa0 a1 a2 a3 a4 a5 a6 a7 a8=>ze9 k a0 a1 a2 a3 a4 a5 a6 a7 a8) (λa0 a1 a2 a3 a4 a5=>some (a0,a1,a2,a3,a4,a5))
def zea:Nat->al->Int->Int->az->ah->ag->aH->ag->Option (Sum pE pE)
 |0,_,_,_,_,_,_,_,_=>none
 |k+1,v0,v1,v2,v3,v4,v5,v6,v7=>JQ v0 v1 v2 v3 v4 v5 v6 v7 (λa0 a1 a2=>some (.inl (a0,a1,a2))) (λa0 a1 a2 a3 a4 a5 a6 a7=>zea k a0 a1 a2 a3 a4 a5 a6 a7) (λa0 a1 a2=>some (.inr (a0,a1,a2)))
def tg(a:az)(b c:ah)(d:ag):Option wh:=
 zs8 a b c d (λa0 a1=>some (a0,a1)) (λa0 a1 a2 a3 a4 a5 a6 a7 a8=>(ze9 af a0 a1 a2 a3 a4 a5 a6 a7 a8).bind λe=>zs9 e.1 e.2.1 e.2.2.1 e.2.2.2.1 e.2.2.2.2.1 e.2.2.2.2.2 (λa0 a1 a2 a3 a4 a5 a6 a7=>(zea af a0 a1 a2 a3 a4 a5 a6 a7).bind λe=>GB (λ(we:pE)=>JR we.1 we.2.1 we.2.2 (λa0 a1=>some (a0,a1))) (λ(we:pE)=>JS we.1 we.2.1 we.2.2 (λa0 a1=>some (a0,a1))) e))
def zqo{R:Type}(a:ax)(b:Int->Int->Int->Option R)(c:tw->Int->ax->Option R):Option R:=
 bif a.2.1<1 then b 5 2 0 else bif 65535<a.2.1 then b 5 2 0 else c a.1 0 a
def Oc{R:Type}(a:tw)(b:Int)(c:ax)(d:Int->Int->Int->Option R)(e:tw->Int->ax->Option R)(f:Option R):Option R:=
 bif b<2 then zd b 2 ((vC (an a b.toNat ((0,0,[],()),([],[],()),[],[],()))).bind λr1=>bif !decide (r1.1=0) then d r1.1 b 1 else zd (zW zI (1-b)) 2 ((tf (an a b.toNat ((0,0,[],()),([],[],()),[],[],())).2.1 (an a b.toNat ((0,0,[],()),([],[],()),[],[],())).1 (an c.1 (zW zI (1-b)).toNat ((0,0,[],()),([],[],()),[],[],())).1).bind λr2=>bif !decide (r2.1=0) then d r2.1 b 2 else e a (zW zI (b+1)) c)) else f
def Jc{R:Type}(a b c:Int)(d:Int->Int->Int->Option R):Option R:=
 d a b c
def z173{R:Type}(a:Int->Int->Int->Option R):Option R:=
 a 0 0 0
def Mw:Nat->tw->Int->ax->Option (Sum jy Unit)
 |0,_,_,_=>none
 |k+1,v0,v1,v2=>Oc v0 v1 v2 (λa0 a1 a2=>some (.inl (a0,a1,a2))) (λa0 a1 a2=>Mw k a0 a1 a2) (some (.inr ()))
def td(a:ax):Option jy:=
 zqo a (λa0 a1 a2=>some (a0,a1,a2)) (λa0 a1 a2=>(Mw af a0 a1 a2).bind λe=>GB (λ(we:jy)=>Jc we.1 we.2.1 we.2.2 (λa0 a1 a2=>some (a0,a1,a2))) (λ(we:Unit)=>z173 (λa0 a1 a2=>some (a0,a1,a2))) e)
def zqq{R:Type}(a:ag)(b:aH)(c:ay)(d:ax)(e:Int->ByteArray->Option R):Option R:=
 (vB c a b).bind λr1=>bif !r1.2 then e 3 (bs []) else(pu c.1 r1.1).bind λr2=>bif r2.1=bs [] then e 3 (bs []) else bif d.2.1<(r2.1.size:Int) then e 3 (bs []) else e 2 r2.1
def lM(a:ag)(b:aH)(c:ay)(d:ax):Option Nl:=
 zqq a b c d (λa0 a1=>some (a0,a1))
def zqp{R:Type}(a:ax)(b:Int)(c:ByteArray)(d:Int->ByteArray->Option R):Option R:=
 (td a).bind λr1=>bif !decide (r1.1=0) then d 0 (bs []) else bif b<0 then d 0 (bs []) else bif 1<b then d 0 (bs []) else zd b 2 (zd (zW zI (1-b)) 2 ((te (an a.1 b.toNat ((0,0,[],()),([],[],()),[],[],())).1 c).bind λr2=>bif !decide (r2.2.1=0) then(lM r2.1 r2.2 (an a.1 b.toNat ((0,0,[],()),([],[],()),[],[],())) a).bind λr3=>d r3.1 r3.2 else(tg (an a.1 b.toNat ((0,0,[],()),([],[],()),[],[],())).2.1 (an a.1 b.toNat ((0,0,[],()),([],[],()),[],[],())).1 (an a.1 (zW zI (1-b)).toNat ((0,0,[],()),([],[],()),[],[],())).1 r2.1).bind λr4=>bif !decide (r4.2.1=0) then(lM r2.1 r4.2 (an a.1 b.toNat ((0,0,[],()),([],[],()),[],[],())) a).bind λr5=>d r5.1 r5.2 else(pu (an a.1 (zW zI (1-b)).toNat ((0,0,[],()),([],[],()),[],[],())).1 r4.1).bind λr6=>bif a.2.1<(r6.1.size:Int) then(lM r2.1 (5,129,()) (an a.1 b.toNat ((0,0,[],()),([],[],()),[],[],())) a).bind λr7=>d r7.1 r7.2 else d 1 r6.1))
def vG(a:ax)(b:Int)(c:ByteArray):Option Nl:=
 zqp a b c (λa0 a1=>some (a0,a1))
def zzg{R:Type}(a:ay)(b:cJ->cJ->Int->Int->ay->ay->Option R):Option R:=
 bif aa a.1.2.2.1*40<=140737488355328 then bif aa a.2.1.1*32<=140737488355328 then bif 0<=((aa a.2.1.2.1):Int) then bif((aa a.2.1.2.1):Int)*64<=140737488355328 then b [] a.2.1.2.1 ((aa a.2.1.2.1):Int) 0 ((a.1.1,a.1.2.1,a.1.2.2.1,()),(a.2.1.1,a.2.1.2.1,()),a.2.2.1,a.2.2.2.1,()) ((0,0,[],()),([],[],()),[],[],()) else none else none else none else none
def KN{R:Type}(a b:cJ)(c d:Int)(e f:ay)(g:cJ->cJ->Int->Int->ay->ay->Option R)(h:cJ->ay->ay->Option R):Option R:=
 bif d<c then zd d (aa b) (bif aa (an b d.toNat ((0:Int),(0:Int),(0:Int),bs [],([]:List dK),())).2.2.2.2.1*32<=140737488355328 then bif(aa a+aa ([((an b d.toNat ((0:Int),(0:Int),(0:Int),bs [],([]:List dK),())).1,(an b d.toNat ((0:Int),(0:Int),(0:Int),bs [],([]:List dK),())).2.1,(an b d.toNat ((0:Int),(0:Int),(0:Int),bs [],([]:List dK),())).2.2.1,(an b d.toNat ((0:Int),(0:Int),(0:Int),bs [],([]:List dK),())).2.2.2.1,(an b d.toNat ((0:Int),(0:Int),(0:Int),bs [],([]:List dK),())).2.2.2.2.1,())]:List aN))*64<=140737488355328 then g (a++([((an b d.toNat (0,0,0,bs [],[],())).1,(an b d.toNat (0,0,0,bs [],[],())).2.1,(an b d.toNat (0,0,0,bs [],[],())).2.2.1,(an b d.toNat (0,0,0,bs [],[],())).2.2.2.1,(an b d.toNat (0,0,0,bs [],[],())).2.2.2.2.1,())]:List aN)) b c (zW zI (d+1)) e f else none else none) else h a e f
def zzh{R:Type}(a:cJ)(b c:ay)(d:ay->Option R):Option R:=
 bif aa b.2.2.1*8<=140737488355328 then bif aa b.2.2.2.1*24<=140737488355328 then d (b.1,(b.2.1.1,a,()),b.2.2.1,b.2.2.2.1,()) else none else none
def zk6:Nat->cJ->cJ->Int->Int->ay->ay->Option (cJ×ay×ay)
 |0,_,_,_,_,_,_=>none
 |k+1,v0,v1,v2,v3,v4,v5=>KN v0 v1 v2 v3 v4 v5 (λa0 a1 a2 a3 a4 a5=>zk6 k a0 a1 a2 a3 a4 a5) (λa0 a1 a2=>some (a0,a1,a2))
def Pv(a:ay):Option ay:=
 zzg a (λa0 a1 a2 a3 a4 a5=>(zk6 af a0 a1 a2 a3 a4 a5).bind λe=>zzh e.1 e.2.1 e.2.2 (λa0=>some a0))
def zzd{R:Type}(a:ax)(b:Int->Option R)(c:Int->ax->(ax×(Option ar×Option ar)×Int)->Option R):Option R:=
 (td a).bind λr1=>bif !decide (r1.1=0) then b 1 else c 0 a (a,((none,none),0))
def OE{R:Type}(a:Int)(b:ax)(c:(ax×(Option ar×Option ar)×Int))(d:Int->ax->(ax×(Option ar×Option ar)×Int)->Option R)(e:(ax×(Option ar×Option ar)×Int)->Option R):Option R:=
 bif a<2 then zd a 2 ((Pv (an b.1 a.toNat ((0,0,[],()),([],[],()),[],[],()))).bind λr2=>zd a 2 ((Pr b.2.1).bind λr3=>GB (λ(uG:Int)=>zd a 2 (d (zW zI (a+1)) b ((za1 c.1.1 a.toNat r2,c.1.2.1,()),(gy a.toNat none c.2.1,c.2.2)))) (λ(uG:tn)=>zd a 2 (d (zW zI (a+1)) b ((za1 c.1.1 a.toNat r2,c.1.2.1,()),(gy a.toNat (some uG.2) c.2.1,c.2.2)))) r3)) else e c
def KM{R:Type}(a:(ax×(Option ar×Option ar)×Int))(b:Int->(ax×(Option ar×Option ar)×Int)->Option R):Option R:=
 b 0 a
def MU:Nat->Int->ax->(ax×(Option ar×Option ar)×Int)->Option (ax×(Option ar×Option ar)×Int)
 |0,_,_,_=>none
 |k+1,v0,v1,v2=>OE v0 v1 v2 (λa0 a1 a2=>MU k a0 a1 a2) (λa0=>some a0)
def C7(a:ax):Option (Sum Int (Int×(ax×(Option ar×Option ar)×Int))):=
 zzd a (λa0=>some (.inl a0)) (λa0 a1 a2=>(MU af a0 a1 a2).bind λe=>KM e (λa0 a1=>some (.inr (a0,a1))))
def zze{R:Type}(a:Int)(b:Bool->Option R):Option R:=
 bif a=0 then b true else b (decide (a=1))
def FZ(a:Int):Option Bool:=
 zze a (λa0=>some a0)
def zzb{R:Type}(a:(ax×(Option ar×Option ar)×Int))(b:Int)(c:ByteArray)(d:im->(ax×(Option ar×Option ar)×Int)->Option R):Option R:=
 (vG a.1 b c).bind λr1=>bif r1.1=3 then d (b,r1.1,bs [],zW zI (a.2.2+1),()) (a.1,(a.2.1,zW zI (a.2.2+1))) else bif r1.1=1 then(FW r1.2).bind λr2=>d (zW zI (1-b),r1.1,r2.1,a.2.2,()) a else(FW r1.2).bind λr3=>d (b,r1.1,r3.1,a.2.2,()) a
def Ng(a:(ax×(Option ar×Option ar)×Int))(b:Int)(c:ByteArray):Option (im×(ax×(Option ar×Option ar)×Int)):=
 zzb a b c (λa0 a1=>some (a0,a1))
def zz8{R:Type}(a:(ax×(Option ar×Option ar)×Int))(b:aT)(c:bP->(ax×(Option ar×Option ar)×Int)->Option R)(d:bP->Bool->(List ByteArray)->Int->Int->(ax×(Option ar×Option ar)×Int)->aT->Option R):Option R:=
 (FZ b.1).bind λr1=>bif !r1 then c [] a else zd b.1 2 ((getM b.1.toNat a.2.1).bind λm2=>(FV m2 b.2.1).bind λr3=>d [] r3.2.1 r3.1 ((aa r3.1):Int) 0 (a.1,(gy b.1.toNat (some r3.2.2) a.2.1,a.2.2)) b)
def KI{R:Type}(a:bP)(b:Bool)(c:(List ByteArray))(d e:Int)(f:(ax×(Option ar×Option ar)×Int))(g:aT)(h:bP->Bool->(List ByteArray)->Int->Int->(ax×(Option ar×Option ar)×Int)->aT->Option R)(i:bP->Bool->(ax×(Option ar×Option ar)×Int)->aT->Option R):Option R:=
 bif e<d then zd e (aa c) ((Ng f g.1 (an c e.toNat (bs []))).bind λr4=>bif(aa a+aa ([r4.1]:List im))*40<=140737488355328 then h (a++([r4.1]:List im)) b c d (zW zI (e+1)) r4.2 g else none) else i a b f g
def zk4{R:Type}(a:bP)(b:Bool)(c:(ax×(Option ar×Option ar)×Int))(d:aT)(e:bP->(ax×(Option ar×Option ar)×Int)->Option R):Option R:=
 bif b then bif(aa a+aa ([(d.1,(4:Int),bs [],c.2.2,())]:List im))*40<=140737488355328 then e (a++([(d.1,4,bs [],c.2.2,())]:List im)) c else none else e a c
def OD:Nat->bP->Bool->(List ByteArray)->Int->Int->(ax×(Option ar×Option ar)×Int)->aT->Option (bP×Bool×(ax×(Option ar×Option ar)×Int)×aT)
 |0,_,_,_,_,_,_,_=>none
 |k+1,v0,v1,v2,v3,v4,v5,v6=>KI v0 v1 v2 v3 v4 v5 v6 (λa0 a1 a2 a3 a4 a5 a6=>OD k a0 a1 a2 a3 a4 a5 a6) (λa0 a1 a2 a3=>some (a0,a1,a2,a3))
def FX(a:(ax×(Option ar×Option ar)×Int))(b:aT):Option (bP×(ax×(Option ar×Option ar)×Int)):=
 zz8 a b (λa0 a1=>some (a0,a1)) (λa0 a1 a2 a3 a4 a5 a6=>(OD af a0 a1 a2 a3 a4 a5 a6).bind λe=>zk4 e.1 e.2.1 e.2.2.1 e.2.2.2 (λa0 a1=>some (a0,a1)))
def zza{R:Type}(a:(ax×(Option ar×Option ar)×Int))(b:al)(c:bP->al->Int->Int->(ax×(Option ar×Option ar)×Int)->Option R):Option R:=
 c [] b ((aa b):Int) 0 a
def KK{R:Type}(a:bP)(b:al)(c d:Int)(e:(ax×(Option ar×Option ar)×Int))(f:bP->al->Int->Int->(ax×(Option ar×Option ar)×Int)->Option R)(g:bP->(ax×(Option ar×Option ar)×Int)->Option R):Option R:=
 bif d<c then zd d (aa b) ((FX e (an b d.toNat (0,bs [],()))).bind λr1=>bif(aa a+aa r1.1)*40<=140737488355328 then f (a++r1.1) b c (zW zI (d+1)) r1.2 else none) else g a e
def KL{R:Type}(a:bP)(b:(ax×(Option ar×Option ar)×Int))(c:bP->(ax×(Option ar×Option ar)×Int)->Option R):Option R:=
 c a b
def zk5:Nat->bP->al->Int->Int->(ax×(Option ar×Option ar)×Int)->Option (bP×(ax×(Option ar×Option ar)×Int))
 |0,_,_,_,_,_=>none
 |k+1,v0,v1,v2,v3,v4=>KK v0 v1 v2 v3 v4 (λa0 a1 a2 a3 a4=>zk5 k a0 a1 a2 a3 a4) (λa0 a1=>some (a0,a1))
def FY(a:(ax×(Option ar×Option ar)×Int))(b:al):Option (bP×(ax×(Option ar×Option ar)×Int)):=
 zza a b (λa0 a1 a2 a3 a4=>(zk5 af a0 a1 a2 a3 a4).bind λe=>KL e.1 e.2 (λa0 a1=>some (a0,a1)))
def KH{R:Type}(a:(ax×(Option ar×Option ar)×Int))(b:Int->(ax×(Option ar×Option ar)×Int)->Option R):Option R:=
 b a.2.2 a
def Nf(a:(ax×(Option ar×Option ar)×Int)):Option (Int×(ax×(Option ar×Option ar)×Int)):=
 KH a (λa0 a1=>some (a0,a1))
def zz6{R:Type}(a:(ax×(Option ar×Option ar)×Int))(b:Int)(c:Bool->(ax×(Option ar×Option ar)×Int)->Option R):Option R:=
 (FZ b).bind λr1=>bif r1 then zd b 2 ((getM b.toNat a.2.1).bind λm2=>(Q35 m2).bind λr3=>c r3.1 (a.1,(gy b.toNat (some r3.2) a.2.1,a.2.2))) else c false a
def xP(a:(ax×(Option ar×Option ar)×Int))(b:Int):Option (Bool×(ax×(Option ar×Option ar)×Int)):=
 zz6 a b (λa0 a1=>some (a0,a1))
def KJ{R:Type}(a:(ax×(Option ar×Option ar)×Int))(b:Int)(c:Int->(ax×(Option ar×Option ar)×Int)->Option R):Option R:=
 (FZ b).bind λr1=>bif !r1 then c 0 a else zd b 2 ((getM b.toNat a.2.1).bind λm2=>(Q37 m2).bind λr3=>c r3.1 (a.1,(gy b.toNat (some r3.2) a.2.1,a.2.2)))
def Q44(a:(ax×(Option ar×Option ar)×Int))(b:Int):Option (Int×(ax×(Option ar×Option ar)×Int)):=
 KJ a b (λa0 a1=>some (a0,a1))
def LC{R:Type}(a:(List Int)->Option R):Option R:=
 a ([2,3,4,7,11,12,14,23,32,35,37,38,41,42,49,52,55,64,70,102,128]:List Int)
def Q96:Option (List Int):=
 LC (λa0=>some a0)
def LH{R:Type}(a:F6->Option R):Option R:=
 a ([([2,1,2,12,19,1,2,12,19]:List Int),([3,1,1,6,6,1,1,6,6]:List Int),([4,1,1,12,12,1,1,12,12]:List Int),([7,1,1,10,10,1,1,10,10]:List Int),([11,1,1,6,6,1,1,6,6]:List Int),([12,1,1,6,6,1,1,12,12]:List Int),([13,1,1,4,4,0,0,0,0]:List Int),([14,1,1,4,4,1,1,4,4]:List Int),([18,1,1,4,4,0,0,0,0]:List Int),([22,1,1,3,3,3,1,12,12]:List Int),([23,1,1,3,3,1,1,3,3]:List Int),([26,0,0,0,0,1,1,4,4]:List Int),([32,1,2,1,11,1,2,1,11]:List Int),([35,4,2,1,37,4,2,1,37]:List Int),([37,3,1,12,12,3,1,12,12]:List Int),([38,3,1,6,6,3,1,6,6]:List Int),([39,3,1,2,2,1,1,3,3]:List Int),([41,4,1,8,8,4,1,8,8]:List Int),([42,4,1,15,15,4,1,15,15]:List Int),([43,4,1,40,40,4,2,1,99]:List Int),([48,4,3,1,999,4,3,1,999]:List Int),([49,1,1,3,3,1,1,3,3]:List Int),([52,5,1,8,8,5,1,8,8]:List Int),([55,6,3,1,255,6,3,1,255]:List Int),([64,5,1,8,8,5,1,8,8]:List Int),([70,1,1,3,3,1,1,3,3]:List Int),([90,1,1,42,42,0,0,0,0]:List Int),([102,4,2,1,28,4,2,1,28]:List Int),([128,5,1,8,8,5,1,8,8]:List Int)]:List (List Int))
def Q98:Option F6:=
 LH (λa0=>some a0)
def LD{R:Type}(a:Int)(b:Int->F6->Int->ah->ah->Option R):Option R:=
 Q98.bind λr1=>b a r1 0 (0,0,[],()) (zW zI (a+1),a,[],())
def LF{R:Type}(a:Int)(b:F6)(c:Int)(d e:ah)(f:Int->F6->Int->ah->ah->Option R)(g:ah->ah->Option R):Option R:=
 bif c<((aa b):Int) then zd c (aa b) (bif 0<=zW zI (5+zW zI (4*a)) then bif zW zI (5+zW zI (4*a))<=(((aa (an b c.toNat ([]:List Int))):Nat):Int) then bif 0<=zW zI (1+zW zI (4*a)) then bif zW zI (1+zW zI (4*a))<=(((zW zI (5+zW zI (4*a))).toNat:Nat):Int) then zd 0 (aa (zac (zW zI ((1:Int)+zW zI ((4:Int)*a))).toNat (It (zW zI ((5:Int)+zW zI ((4:Int)*a))).toNat (an b c.toNat ([]:List Int))))) (bif 0<an (zac (zW zI (1+zW zI (4*a))).toNat (It (zW zI (5+zW zI (4*a))).toNat (an b c.toNat []))) ((0:Int)).toNat 0 then zd c (aa b) (zd 0 (aa (an b c.toNat ([]:List Int))) (zd 0 (aa (zac (zW zI ((1:Int)+zW zI ((4:Int)*a))).toNat (It (zW zI ((5:Int)+zW zI ((4:Int)*a))).toNat (an b c.toNat ([]:List Int))))) (zd 1 (aa (zac (zW zI ((1:Int)+zW zI ((4:Int)*a))).toNat (It (zW zI ((5:Int)+zW zI ((4:Int)*a))).toNat (an b c.toNat ([]:List Int))))) (zd 2 (aa (zac (zW zI ((1:Int)+zW zI ((4:Int)*a))).toNat (It (zW zI ((5:Int)+zW zI ((4:Int)*a))).toNat (an b c.toNat ([]:List Int))))) (zd 3 (aa (zac (zW zI ((1:Int)+zW zI ((4:Int)*a))).toNat (It (zW zI ((5:Int)+zW zI ((4:Int)*a))).toNat (an b c.toNat ([]:List Int))))) (bif(aa e.2.2.1+aa ([(an (an b c.toNat ([]:List Int)) ((0:Int)).toNat (0:Int),an (zac (zW zI ((1:Int)+zW zI ((4:Int)*a))).toNat (It (zW zI ((5:Int)+zW zI ((4:Int)*a))).toNat (an b c.toNat ([]:List Int)))) ((0:Int)).toNat (0:Int),an (zac (zW zI ((1:Int)+zW zI ((4:Int)*a))).toNat (It (zW zI ((5:Int)+zW zI ((4:Int)*a))).toNat (an b c.toNat ([]:List Int)))) ((1:Int)).toNat (0:Int),an (zac (zW zI ((1:Int)+zW zI ((4:Int)*a))).toNat (It (zW zI ((5:Int)+zW zI ((4:Int)*a))).toNat (an b c.toNat ([]:List Int)))) ((2:Int)).toNat (0:Int),an (zac (zW zI ((1:Int)+zW zI ((4:Int)*a))).toNat (It (zW zI ((5:Int)+zW zI ((4:Int)*a))).toNat (an b c.toNat ([]:List Int)))) ((3:Int)).toNat (0:Int),())]:List aA))*40<=140737488355328 then f a b (zW zI (c+1)) d (e.1,e.2.1,e.2.2.1++([(an (an b c.toNat []) ((0:Int)).toNat 0,an (zac (zW zI (1+zW zI (4*a))).toNat (It (zW zI (5+zW zI (4*a))).toNat (an b c.toNat []))) ((0:Int)).toNat 0,an (zac (zW zI (1+zW zI (4*a))).toNat (It (zW zI (5+zW zI (4*a))).toNat (an b c.toNat []))) ((1:Int)).toNat 0,an (zac (zW zI (1+zW zI (4*a))).toNat (It (zW zI (5+zW zI (4*a))).toNat (an b c.toNat []))) ((2:Int)).toNat 0,an (zac (zW zI (1+zW zI (4*a))).toNat (It (zW zI (5+zW zI (4*a))).toNat (an b c.toNat []))) ((3:Int)).toNat 0,())]:List aA),()) else none)))))) else f a b (zW zI (c+1)) d e) else none else none else none else none) else g d e
def LG{R:Type}(a b:ah)(c:ah->Option R):Option R:=
 c b
def B4:Nat->Int->F6->Int->ah->ah->Option (ah×ah)
 |0,_,_,_,_,_=>none
 |k+1,v0,v1,v2,v3,v4=>LF v0 v1 v2 v3 v4 (λa0 a1 a2 a3 a4=>B4 k a0 a1 a2 a3 a4) (λa0 a1=>some (a0,a1))
def Q97(a:Int):Option ah:=
 LD a (λa0 a1 a2 a3 a4=>(B4 af a0 a1 a2 a3 a4).bind λe=>LG e.1 e.2 (λa0=>some a0))
def zzp{R:Type}(a:Int)(b:Bool->Option R):Option R:=
 bif 48<=a then b (decide (a<=57)) else b false
def Py(a:Int):Option Bool:=
 zzp a (λa0=>some a0)
def zzn{R:Type}(a:ByteArray)(b:ByteArray->Int->Option R):Option R:=
 b a 0
def zzo{R:Type}(a:ByteArray)(b:Int)(c:Bool->Option R)(d:ByteArray->Int->Option R)(e:Option R):Option R:=
 bif b<(a.size:Int) then zd b a.size ((Py (ze a b.toNat)).bind λr1=>bif !r1 then c false else d a (zW zI (b+1))) else e
def KS{R:Type}(a:Bool)(b:Bool->Option R):Option R:=
 b a
def KT{R:Type}(a:Bool->Option R):Option R:=
 a true
def OG:Nat->ByteArray->Int->Option (Sum Bool Unit)
 |0,_,_=>none
 |k+1,v0,v1=>zzo v0 v1 (λa0=>some (.inl a0)) (λa0 a1=>OG k a0 a1) (some (.inr ()))
def C8(a:ByteArray):Option Bool:=
 zzn a (λa0 a1=>(OG af a0 a1).bind λe=>GB (λ(we:Bool)=>KS we (λa0=>some a0)) (λ(we:Unit)=>KT (λa0=>some a0)) e)
def zzr{R:Type}(a:ByteArray)(b:Int->Bool->Option R)(c:ByteArray->Int->Int->Option R):Option R:=
 bif(a.size:Int)<1 then b 0 false else bif 18<(a.size:Int) then b 0 false else(C8 a).bind λr1=>bif !r1 then b 0 false else c a 0 0
def zzs{R:Type}(a:ByteArray)(b c:Int)(d:ByteArray->Int->Int->Option R)(e:Int->Option R):Option R:=
 bif c<(a.size:Int) then zd c a.size (d a (zW zI (zW zI (zW zI (10*b)+zW zI (ze a c.toNat))-48)) (zW zI (c+1))) else e b
def KU{R:Type}(a:Int)(b:Int->Bool->Option R):Option R:=
 b a true
def OH:Nat->ByteArray->Int->Int->Option Int
 |0,_,_,_=>none
 |k+1,v0,v1,v2=>zzs v0 v1 v2 (λa0 a1 a2=>OH k a0 a1 a2) (λa0=>some a0)
def qC(a:ByteArray):Option (Int×Bool):=
 zzr a (λa0 a1=>some (a0,a1)) (λa0 a1 a2=>(OH af a0 a1 a2).bind λe=>KU e (λa0 a1=>some (a0,a1)))
def Bb{R:Type}(a b:Int)(c:ByteArray->Bool->Option R)(d:Int->Int->ByteArray->Int->Option R):Option R:=
 bif a<0 then c (bs []) false else bif b<1 then c (bs []) false else bif 18<b then c (bs []) false else d a b (bs []) 0
def zk8{R:Type}(a b:Int)(c:ByteArray)(d:Int)(e:Int->Int->ByteArray->Int->Option R)(f:Int->ByteArray->Option R):Option R:=
 bif d<b then bif(strOf ([(zW zU (zW zI (48+zaN a 10)))]:List Int)).size+c.size<=9223372036854775807 then e (zW zI (zaf a 10)) b (strOf ([(zW zU (zW zI (48+zaN a 10)))]:List Int)++c) (zW zI (d+1)) else none else f a c
def Bc{R:Type}(a:Int)(b:ByteArray)(c:ByteArray->Bool->Option R):Option R:=
 bif !decide (a=0) then c (bs []) false else c b true
def MW:Nat->Int->Int->ByteArray->Int->Option Nl
 |0,_,_,_,_=>none
 |k+1,v0,v1,v2,v3=>zk8 v0 v1 v2 v3 (λa0 a1 a2 a3=>MW k a0 a1 a2 a3) (λa0 a1=>some (a0,a1))
def F1(a b:Int):Option iH:=
 Bb a b (λa0 a1=>some (a0,a1)) (λa0 a1 a2 a3=>(MW af a0 a1 a2 a3).bind λe=>Bc e.1 e.2 (λa0 a1=>some (a0,a1)))
def zzv{R:Type}(a:ByteArray)(b:Int)(c:ByteArray->Bool->Option R)(d:ByteArray->Int->Option R):Option R:=
 bif(a.size:Int)<1 then c (bs []) false else bif 999<(a.size:Int) then c (bs []) false else(C8 a).bind λr1=>bif !r1 then c (bs []) false else bif b<1 then c (bs []) false else bif 999<b then c (bs []) false else d a b
def zzw{R:Type}(a:ByteArray)(b:Int)(c d:ByteArray->Int->Option R):Option R:=
 bif(a.size:Int)<b then bif(bs [48]).size+a.size<=9223372036854775807 then c (bs [48]++a) b else none else d a b
def zzx{R:Type}(a:ByteArray)(b:Int)(c:ByteArray->Int->Option R):Option R:=
 c a b
def zzy{R:Type}(a:ByteArray)(b:Int)(c:ByteArray->ByteArray->Bool->Option R)(d:ByteArray->Int->Option R)(e:ByteArray->Option R):Option R:=
 bif b<(a.size:Int) then zd 0 a.size (bif !decide (ze a ((0:Int)).toNat=48) then c a (bs []) false else bif 1<=(a.size:Int) then d (a.extract ((1:Int)).toNat a.size) b else none) else e a
def zzz{R:Type}(a b:ByteArray)(c:Bool)(d:ByteArray->Bool->Option R):Option R:=
 d b c
def A9{R:Type}(a:ByteArray)(b:ByteArray->Bool->Option R):Option R:=
 b a true
def OI:Nat->ByteArray->Int->Option Ej
 |0,_,_=>none
 |k+1,v0,v1=>zzw v0 v1 (λa0 a1=>OI k a0 a1) (λa0 a1=>some (a0,a1))
def OJ:Nat->ByteArray->Int->Option (Sum vZ ByteArray)
 |0,_,_=>none
 |k+1,v0,v1=>zzy v0 v1 (λa0 a1 a2=>some (.inl (a0,a1,a2))) (λa0 a1=>OJ k a0 a1) (λa0=>some (.inr a0))
def Pz(a:ByteArray)(b:Int):Option iH:=
 zzv a b (λa0 a1=>some (a0,a1)) (λa0 a1=>(OI af a0 a1).bind λe=>zzx e.1 e.2 (λa0 a1=>(OJ af a0 a1).bind λe=>GB (λ(we:vZ)=>zzz we.1 we.2.1 we.2.2 (λa0 a1=>some (a0,a1))) (λ(we:ByteArray)=>A9 we (λa0 a1=>some (a0,a1))) e))
def Bk{R:Type}(a:ByteArray)(b:Int)(c:ByteArray->Int->Int->Option R)(d:ByteArray->Int->ByteArray->Int->Option R):Option R:=
 bif b<0 then c (bs []) 1 0 else bif 999<b then c (bs []) 1 0 else bif(a.size:Int)<zW zI (zaf (zW zI (b+1)) 2) then c (bs []) 2 (a.size:Int) else d a (zW zI (zaf (zW zI (b+1)) 2)) (bs []) (zW zI (zW zI (2*zW zI (zaf (zW zI (b+1)) 2))-b))
def M0{R:Type}(a:ByteArray)(b:Int)(c:ByteArray)(d:Int)(e:ByteArray->Int->Int->ByteArray->Option R)(f:ByteArray->Int->ByteArray->Int->Option R)(g:ByteArray->Option R):Option R:=
 bif d<zW zI (2*b) then bif d=1 then bif c=bs [] then zd 0 a.size (bif !decide (zW zU (zaf (ze a ((0:Int)).toNat) 16)=0) then e (bs []) 4 0 c else zd (zW zI (zaf d 2)) a.size (bif zaN d 2=1 then zd (zW zI (zaf d 2)) a.size (bif 9<zaN (ze a (zW zI (zaf d (2:Int))).toNat) 16 then e (bs []) 3 (zW zI (zaf d 2)) c else bif c.size+(strOf ([(zW zU (48+zaN (ze a (zW zI (zaf d (2:Int))).toNat) 16))]:List Int)).size<=9223372036854775807 then f a b (c++strOf ([(zW zU (48+zaN (ze a (zW zI (zaf d (2:Int))).toNat) 16))]:List Int)) (zW zI (d+1)) else none) else bif 9<zW zU (zaf (ze a (zW zI (zaf d (2:Int))).toNat) 16) then e (bs []) 3 (zW zI (zaf d 2)) c else bif c.size+(strOf ([(zW zU (48+zW zU (zaf (ze a (zW zI (zaf d (2:Int))).toNat) 16)))]:List Int)).size<=9223372036854775807 then f a b (c++strOf ([(zW zU (48+zW zU (zaf (ze a (zW zI (zaf d (2:Int))).toNat) 16)))]:List Int)) (zW zI (d+1)) else none)) else zd (zW zI (zaf d 2)) a.size (bif zaN d 2=1 then zd (zW zI (zaf d 2)) a.size (bif 9<zaN (ze a (zW zI (zaf d (2:Int))).toNat) 16 then e (bs []) 3 (zW zI (zaf d 2)) c else bif c.size+(strOf ([(zW zU (48+zaN (ze a (zW zI (zaf d (2:Int))).toNat) 16))]:List Int)).size<=9223372036854775807 then f a b (c++strOf ([(zW zU (48+zaN (ze a (zW zI (zaf d (2:Int))).toNat) 16))]:List Int)) (zW zI (d+1)) else none) else bif 9<zW zU (zaf (ze a (zW zI (zaf d (2:Int))).toNat) 16) then e (bs []) 3 (zW zI (zaf d 2)) c else bif c.size+(strOf ([(zW zU (48+zW zU (zaf (ze a (zW zI (zaf d (2:Int))).toNat) 16)))]:List Int)).size<=9223372036854775807 then f a b (c++strOf ([(zW zU (48+zW zU (zaf (ze a (zW zI (zaf d (2:Int))).toNat) 16)))]:List Int)) (zW zI (d+1)) else none) else zd (zW zI (zaf d 2)) a.size (bif zaN d 2=1 then zd (zW zI (zaf d 2)) a.size (bif 9<zaN (ze a (zW zI (zaf d (2:Int))).toNat) 16 then e (bs []) 3 (zW zI (zaf d 2)) c else bif c.size+(strOf ([(zW zU (48+zaN (ze a (zW zI (zaf d (2:Int))).toNat) 16))]:List Int)).size<=9223372036854775807 then f a b (c++strOf ([(zW zU (48+zaN (ze a (zW zI (zaf d (2:Int))).toNat) 16))]:List Int)) (zW zI (d+1)) else none) else bif 9<zW zU (zaf (ze a (zW zI (zaf d (2:Int))).toNat) 16) then e (bs []) 3 (zW zI (zaf d 2)) c else bif c.size+(strOf ([(zW zU (48+zW zU (zaf (ze a (zW zI (zaf d (2:Int))).toNat) 16)))]:List Int)).size<=9223372036854775807 then f a b (c++strOf ([(zW zU (48+zW zU (zaf (ze a (zW zI (zaf d (2:Int))).toNat) 16)))]:List Int)) (zW zI (d+1)) else none) else g c
def K8{R:Type}(a:ByteArray)(b c:Int)(d:ByteArray)(e:ByteArray->Int->Int->Option R):Option R:=
 e a b c
def zkc{R:Type}(a:ByteArray)(b:ByteArray->Int->Int->Option R):Option R:=
 b a 0 0
def p5:Nat->ByteArray->Int->ByteArray->Int->Option (Sum (ByteArray×Int×Int×ByteArray) ByteArray)
 |0,_,_,_,_=>none
 |k+1,v0,v1,v2,v3=>M0 v0 v1 v2 v3 (λa0 a1 a2 a3=>some (.inl (a0,a1,a2,a3))) (λa0 a1 a2 a3=>p5 k a0 a1 a2 a3) (λa0=>some (.inr a0))
def ux(a:ByteArray)(b:Int):Option jM:=
 Bk a b (λa0 a1 a2=>some (a0,a1,a2)) (λa0 a1 a2 a3=>(p5 af a0 a1 a2 a3).bind λe=>GB (λ(we:(ByteArray×Int×Int×ByteArray))=>K8 we.1 we.2.1 we.2.2.1 we.2.2.2 (λa0 a1 a2=>some (a0,a1,a2))) (λ(we:ByteArray)=>zkc we (λa0 a1 a2=>some (a0,a1,a2))) e)
def OK{R:Type}(a:ByteArray)(b:ByteArray->Bool->Option R)(c:ByteArray->(List Int)->Int->Int->Option R):Option R:=
 bif 999<(a.size:Int) then b (bs []) false else(C8 a).bind λr1=>bif !r1 then b (bs []) false else bif zaN (a.size:Int) 2=1 then bif(aa ([]:List Int)+aa ([(0:Int)]:List Int))*1<=140737488355328 then c a ([]++([0]:List Int)) (zaN (a.size:Int) 2) 0 else none else c a [] (zaN (a.size:Int) 2) 0
theorem adP{R S:Type}(F:R->Option S)(a)(b)(c):(OK a b c).bind F=OK a (λa0 a1=>(b a0 a1).bind F) (λa0 a1 a2 a3=>(c a0 a1 a2 a3).bind F):=by simp only[OK,av]
def OL{R:Type}(a:ByteArray)(b:(List Int))(c d:Int)(e:ByteArray->(List Int)->Int->Int->Option R)(f:(List Int)->Option R):Option R:=
 bif d<(a.size:Int) then zd d a.size (bif c=0 then bif(aa b+aa ([(zW zU ((16:Int)*zW zU (ze a d.toNat-(48:Int))))]:List Int))*1<=140737488355328 then e a (b++([(zW zU (16*zW zU (ze a d.toNat-48)))]:List Int)) (zW zI (1-c)) (zW zI (d+1)) else none else zd (zW zI ((aa b:Int)-1)) (aa b) (e a (za1 b (zW zI ((aa b:Int)-(1:Int))).toNat (zW zU (an b (zW zI ((aa b:Int)-(1:Int))).toNat 0+zW zU (ze a d.toNat-48)))) (zW zI (1-c)) (zW zI (d+1)))) else f b
def K9{R:Type}(a:(List Int))(b:ByteArray->Bool->Option R):Option R:=
 b (strOf a) true
def CF:Nat->ByteArray->(List Int)->Int->Int->Option (List Int)
 |0,_,_,_,_=>none
 |k+1,v0,v1,v2,v3=>OL v0 v1 v2 v3 (λa0 a1 a2 a3=>CF k a0 a1 a2 a3) (λa0=>some a0)
def Da(a:ByteArray):Option iH:=
 OK a (λa0 a1=>some (a0,a1)) (λa0 a1 a2 a3=>(CF af a0 a1 a2 a3).bind λe=>K9 e (λa0 a1=>some (a0,a1)))
def KW{R:Type}(a:ByteArray->Option R):Option R:=
 a (bs [48,49,50,51,52,53,54,55,56,57,65,66,67,68,69,70])
def Nh:Option ByteArray:=
 KW (λa0=>some a0)
def K3{R:Type}(a:Int)(b:Int->Int->Option R):Option R:=
 b a 0
def K4{R:Type}(a b:Int)(c:Int->Option R)(d:Int->Int->Option R)(e:Option R):Option R:=
 bif b<16 then Nh.bind λr1=>zd b r1.size (bif ze r1 b.toNat=a then c b else d a (zW zI (b+1))) else e
def K5{R:Type}(a:Int)(b:Int->Option R):Option R:=
 b a
def K6{R:Type}(a:Int->Option R):Option R:=
 a (-1:Int)
def Bi:Nat->Int->Int->Option (Sum Int Unit)
 |0,_,_=>none
 |k+1,v0,v1=>K4 v0 v1 (λa0=>some (.inl a0)) (λa0 a1=>Bi k a0 a1) (some (.inr ()))
def F2(a:Int):Option Int:=
 K3 a (λa0 a1=>(Bi af a0 a1).bind λe=>GB (λ(we:Int)=>K5 we (λa0=>some a0)) (λ(we:Unit)=>K6 (λa0=>some a0)) e)
def Be{R:Type}(a:ByteArray)(b:ByteArray->Int->Option R):Option R:=
 b a 0
def zk9{R:Type}(a:ByteArray)(b:Int)(c:ByteArray->ByteArray->Int->Bool->Option R)(d:ByteArray->Int->Option R)(e:ByteArray->Option R):Option R:=
 bif b<(a.size:Int) then zd b a.size ((F2 (ze a b.toNat)).bind λr1=>bif r1<0 then c a (bs []) b false else d a (zW zI (b+1))) else e a
def KZ{R:Type}(a b:ByteArray)(c:Int)(d:Bool)(e:ByteArray->Int->Bool->Option R):Option R:=
 e b c d
def z107{R:Type}(a:ByteArray)(b:ByteArray->Int->Bool->Option R)(c:ByteArray->(List Int)->Int->Option R):Option R:=
 bif zaN (a.size:Int) 2=1 then b (bs []) (a.size:Int) false else c a [] 0
def zka{R:Type}(a:ByteArray)(b:(List Int))(c:Int)(d:ByteArray->(List Int)->Int->Option R)(e:(List Int)->Option R):Option R:=
 bif c<(a.size:Int) then zd c a.size ((F2 (ze a c.toNat)).bind λr2=>zd (zW zI (c+1)) a.size ((F2 (ze a (zW zI (c+(1:Int))).toNat)).bind λr3=>bif(aa b+aa ([(zW zU (zW zI (zW zI ((16:Int)*r2)+r3)))]:List Int))*1<=140737488355328 then d a (b++([(zW zU (zW zI (zW zI (16*r2)+r3)))]:List Int)) (zW zI (c+2)) else none)) else e b
def K0{R:Type}(a:(List Int))(b:ByteArray->Int->Bool->Option R):Option R:=
 b (strOf a) 0 true
def MX:Nat->ByteArray->Int->Option (Sum (ByteArray×ByteArray×Int×Bool) ByteArray)
 |0,_,_=>none
 |k+1,v0,v1=>zk9 v0 v1 (λa0 a1 a2 a3=>some (.inl (a0,a1,a2,a3))) (λa0 a1=>MX k a0 a1) (λa0=>some (.inr a0))
def MY:Nat->ByteArray->(List Int)->Int->Option (List Int)
 |0,_,_,_=>none
 |k+1,v0,v1,v2=>zka v0 v1 v2 (λa0 a1 a2=>MY k a0 a1 a2) (λa0=>some a0)
def C9(a:ByteArray):Option (ByteArray×Int×Bool):=
 Be a (λa0 a1=>(MX af a0 a1).bind λe=>GB (λ(we:(ByteArray×ByteArray×Int×Bool))=>KZ we.1 we.2.1 we.2.2.1 we.2.2.2 (λa0 a1 a2=>some (a0,a1,a2))) (λ(we:ByteArray)=>z107 we (λa0 a1 a2=>some (a0,a1,a2)) (λa0 a1 a2=>(MY af a0 a1 a2).bind λe=>K0 e (λa0 a1 a2=>some (a0,a1,a2)))) e)
def Bg{R:Type}(a:ByteArray)(b:ByteArray->(List Int)->Int->Option R):Option R:=
 b a [] 0
def zkb{R:Type}(a:ByteArray)(b:(List Int))(c:Int)(d:ByteArray->(List Int)->Int->Option R)(e:(List Int)->Option R):Option R:=
 bif c<(a.size:Int) then Nh.bind λr1=>zd c a.size (zd (zW zU (zaf (ze a c.toNat) 16)) r1.size (Nh.bind λr2=>zd c a.size (zd (zaN (ze a c.toNat) 16) r2.size (bif(aa b+aa ([(ze r1 (zW zU (zaf (ze a c.toNat) (16:Int))).toNat),(ze r2 (zaN (ze a c.toNat) (16:Int)).toNat)]:List Int))*1<=140737488355328 then d a (b++([(ze r1 (zW zU (zaf (ze a c.toNat) (16:Int))).toNat),(ze r2 (zaN (ze a c.toNat) (16:Int)).toNat)]:List Int)) (zW zI (c+1)) else none)))) else e b
def K1{R:Type}(a:(List Int))(b:ByteArray->Option R):Option R:=
 b (strOf a)
def MZ:Nat->ByteArray->(List Int)->Int->Option (List Int)
 |0,_,_,_=>none
 |k+1,v0,v1,v2=>zkb v0 v1 v2 (λa0 a1 a2=>MZ k a0 a1 a2) (λa0=>some a0)
def yM(a:ByteArray):Option ByteArray:=
 Bg a (λa0 a1 a2=>(MZ af a0 a1 a2).bind λe=>K1 e (λa0=>some a0))
def Bv{R:Type}(a:(List Int))(b:Int)(c:(List Int)->Int->Int->Option R):Option R:=
 c a b 0
def zke{R:Type}(a:(List Int))(b c:Int)(d:Bool->Option R)(e:(List Int)->Int->Int->Option R)(f:Option R):Option R:=
 bif c<((aa a):Int) then zd c (aa a) (bif an a c.toNat 0=b then d true else e a b (zW zI (c+1))) else f
def Li{R:Type}(a:Bool)(b:Bool->Option R):Option R:=
 b a
def Lj{R:Type}(a:Bool->Option R):Option R:=
 a false
def M3:Nat->(List Int)->Int->Int->Option (Sum Bool Unit)
 |0,_,_,_=>none
 |k+1,v0,v1,v2=>zke v0 v1 v2 (λa0=>some (.inl a0)) (λa0 a1 a2=>M3 k a0 a1 a2) (some (.inr ()))
def xQ(a:(List Int))(b:Int):Option Bool:=
 Bv a b (λa0 a1 a2=>(M3 af a0 a1 a2).bind λe=>GB (λ(we:Bool)=>Li we (λa0=>some a0)) (λ(we:Unit)=>Lj (λa0=>some a0)) e)
def ON{R:Type}(a:Int)(b:ByteArray)(c d:Int)(e:(List Int)->Int->Option R)(f:Int->ByteArray->(List Int)->Int->Option R):Option R:=
 bif a=1 then bif zW zI ((b.size:Int)-c)<16 then e [] 2 else bif 0<=zW zI (c+16) then bif zW zI (c+16)<=(b.size:Int) then bif 0<=c then bif c<=(((zW zI (c+(16:Int))).toNat:Nat):Int) then bif a=1 then(C9 (b.extract c.toNat (zW zI (c+(16:Int))).toNat)).bind λr1=>bif !r1.2.2 then e [] 3 else f d r1.1 [] 0 else f d (b.extract c.toNat (zW zI (c+(16:Int))).toNat) [] 0 else none else none else none else none else bif zW zI ((b.size:Int)-c)<8 then e [] 2 else bif 0<=zW zI (c+8) then bif zW zI (c+8)<=(b.size:Int) then bif 0<=c then bif c<=(((zW zI (c+(8:Int))).toNat:Nat):Int) then bif a=1 then(C9 (b.extract c.toNat (zW zI (c+(8:Int))).toNat)).bind λr2=>bif !r2.2.2 then e [] 3 else f d r2.1 [] 0 else f d (b.extract c.toNat (zW zI (c+(8:Int))).toNat) [] 0 else none else none else none else none
theorem adR{R S:Type}(F:R->Option S)(a)(b)(c)(d)(e)(f):(ON a b c d e f).bind F=ON a b c d (λa0 a1=>(e a0 a1).bind F) (λa0 a1 a2 a3=>(f a0 a1 a2 a3).bind F):=by simp only[ON,av]
def zkj{R:Type}(a:Int)(b:ByteArray)(c:(List Int))(d:Int)(e:Int->ByteArray->(List Int)->Int->Int->Int->Int->Option R)(f:(List Int)->Option R):Option R:=
 bif d<8 then zd d b.size (e a b c d (ze b d.toNat) 128 0) else f c
def BG{R:Type}(a:(List Int))(b:(List Int)->Int->Option R):Option R:=
 b a 0
def zkk{R:Type}(a:Int)(b:ByteArray)(c:(List Int))(d e f g:Int)(h:Int->ByteArray->(List Int)->Int->Int->Int->Int->Option R)(i:Int->ByteArray->(List Int)->Int->Option R):Option R:=
 bif g<8 then bif f<=e then bif(aa c+aa ([(zW zI (zW zI (a+zW zI ((8:Int)*d))+g))]:List Int))*8<=140737488355328 then h a b (c++([(zW zI (zW zI (a+zW zI (8*d))+g))]:List Int)) d (zW zU (e-f)) (zW zU (zaf f 2)) (zW zI (g+1)) else none else h a b c d e (zW zU (zaf f 2)) (zW zI (g+1)) else i a b c d
def BH{R:Type}(a:Int)(b:ByteArray)(c:(List Int))(d:Int)(e:Int->ByteArray->(List Int)->Int->Option R):Option R:=
 e a b c (zW zI (d+1))
def M6:Nat->Int->ByteArray->(List Int)->Int->Int->Int->Int->Option (Int×ByteArray×(List Int)×Int)
 |0,_,_,_,_,_,_,_=>none
 |k+1,v0,v1,v2,v3,v4,v5,v6=>zkk v0 v1 v2 v3 v4 v5 v6 (λa0 a1 a2 a3 a4 a5 a6=>M6 k a0 a1 a2 a3 a4 a5 a6) (λa0 a1 a2 a3=>some (a0,a1,a2,a3))
def FI:Nat->Int->ByteArray->(List Int)->Int->Option (List Int)
 |0,_,_,_,_=>none
 |k+1,v0,v1,v2,v3=>zkj v0 v1 v2 v3 (λa0 a1 a2 a3 a4 a5 a6=>(M6 af a0 a1 a2 a3 a4 a5 a6).bind λe=>BH e.1 e.2.1 e.2.2.1 e.2.2.2 (λa0 a1 a2 a3=>FI k a0 a1 a2 a3)) (λa0=>some a0)
def qN(a:Int)(b:ByteArray)(c d:Int):Option ((List Int)×Int):=
 ON a b c d (λa0 a1=>some (a0,a1)) (λa0 a1 a2 a3=>(FI af a0 a1 a2 a3).bind λe=>BG e (λa0 a1=>some (a0,a1)))
def Bw{R:Type}(a:Int)(b:ByteArray)(c:Int)(d:(List Int)->Int->Int->Option R):Option R:=
 bif !decide (a=1) then bif !decide (a=2) then d [] 0 1 else bif c<0 then d [] 0 1 else bif(b.size:Int)<c then d [] 0 1 else bif a=1 then(qN a b c (1:Int)).bind λr1=>bif !decide (r1.2=0) then d [] 0 r1.2 else bif((aa r1.1):Int)=0 then d r1.1 (zW zI (c+16)) 0 else zd 0 (aa r1.1) (bif !decide (an r1.1 ((0:Int)).toNat 0=1) then d r1.1 (zW zI (c+16)) 0 else(qN a b (zW zI (c+16)) (65:Int)).bind λr2=>bif !decide (r2.2=0) then d [] 0 r2.2 else bif((aa r2.1):Int)=0 then d [] 0 8 else bif 1<=(((aa r1.1):Nat):Int) then bif(aa ([]:List Int)+aa (zac ((1:Int)).toNat (It (aa r1.1) r1.1)))*8<=140737488355328 then bif(aa (([]:List Int)++zac ((1:Int)).toNat (It (aa r1.1) r1.1))+aa r2.1)*8<=140737488355328 then d (([]++zac ((1:Int)).toNat (It (aa r1.1) r1.1))++r2.1) (zW zI (c+zW zI (2*16))) 0 else none else none else none) else(qN a b c (1:Int)).bind λr3=>bif !decide (r3.2=0) then d [] 0 r3.2 else bif((aa r3.1):Int)=0 then d r3.1 (zW zI (c+8)) 0 else zd 0 (aa r3.1) (bif !decide (an r3.1 ((0:Int)).toNat 0=1) then d r3.1 (zW zI (c+8)) 0 else(qN a b (zW zI (c+8)) (65:Int)).bind λr4=>bif !decide (r4.2=0) then d [] 0 r4.2 else bif((aa r4.1):Int)=0 then d [] 0 8 else bif 1<=(((aa r3.1):Nat):Int) then bif(aa ([]:List Int)+aa (zac ((1:Int)).toNat (It (aa r3.1) r3.1)))*8<=140737488355328 then bif(aa (([]:List Int)++zac ((1:Int)).toNat (It (aa r3.1) r3.1))+aa r4.1)*8<=140737488355328 then d (([]++zac ((1:Int)).toNat (It (aa r3.1) r3.1))++r4.1) (zW zI (c+zW zI (2*8))) 0 else none else none else none) else bif c<0 then d [] 0 1 else bif(b.size:Int)<c then d [] 0 1 else bif a=1 then(qN a b c (1:Int)).bind λr5=>bif !decide (r5.2=0) then d [] 0 r5.2 else bif((aa r5.1):Int)=0 then d r5.1 (zW zI (c+16)) 0 else zd 0 (aa r5.1) (bif !decide (an r5.1 ((0:Int)).toNat 0=1) then d r5.1 (zW zI (c+16)) 0 else(qN a b (zW zI (c+16)) (65:Int)).bind λr6=>bif !decide (r6.2=0) then d [] 0 r6.2 else bif((aa r6.1):Int)=0 then d [] 0 8 else bif 1<=(((aa r5.1):Nat):Int) then bif(aa ([]:List Int)+aa (zac ((1:Int)).toNat (It (aa r5.1) r5.1)))*8<=140737488355328 then bif(aa (([]:List Int)++zac ((1:Int)).toNat (It (aa r5.1) r5.1))+aa r6.1)*8<=140737488355328 then d (([]++zac ((1:Int)).toNat (It (aa r5.1) r5.1))++r6.1) (zW zI (c+zW zI (2*16))) 0 else none else none else none) else(qN a b c (1:Int)).bind λr7=>bif !decide (r7.2=0) then d [] 0 r7.2 else bif((aa r7.1):Int)=0 then d r7.1 (zW zI (c+8)) 0 else zd 0 (aa r7.1) (bif !decide (an r7.1 ((0:Int)).toNat 0=1) then d r7.1 (zW zI (c+8)) 0 else(qN a b (zW zI (c+8)) (65:Int)).bind λr8=>bif !decide (r8.2=0) then d [] 0 r8.2 else bif((aa r8.1):Int)=0 then d [] 0 8 else bif 1<=(((aa r7.1):Nat):Int) then bif(aa ([]:List Int)+aa (zac ((1:Int)).toNat (It (aa r7.1) r7.1)))*8<=140737488355328 then bif(aa (([]:List Int)++zac ((1:Int)).toNat (It (aa r7.1) r7.1))+aa r8.1)*8<=140737488355328 then d (([]++zac ((1:Int)).toNat (It (aa r7.1) r7.1))++r8.1) (zW zI (c+zW zI (2*8))) 0 else none else none else none)
def yN(a:Int)(b:ByteArray)(c:Int):Option ((List Int)×Int×Int):=
 Bw a b c (λa0 a1 a2=>some (a0,a1,a2))
def BC{R:Type}(a:(List Int))(b:Int)(c:(List Int)->Int->(List Int)->Int->Option R):Option R:=
 c a b [] 0
def zkh{R:Type}(a:(List Int))(b:Int)(c:(List Int))(d:Int)(e:(List Int)->Int->(List Int)->Int->Int->Int->Option R)(f:(List Int)->Option R):Option R:=
 bif d<8 then e a b c d 0 0 else f c
def Lk{R:Type}(a:(List Int))(b:ByteArray->Option R):Option R:=
 b (strOf a)
def zki{R:Type}(a:(List Int))(b:Int)(c:(List Int))(d e f:Int)(g:(List Int)->Int->(List Int)->Int->Int->Int->Option R)(h:(List Int)->Int->(List Int)->Int->Int->Option R):Option R:=
 bif f<8 then(xQ a (zW zI (zW zI (b+zW zI (8*d))+f))).bind λr1=>bif r1 then g a b c d (zW zU (zW zU (e*2)+1)) (zW zI (f+1)) else g a b c d (zW zU (e*2)) (zW zI (f+1)) else h a b c d e
def BD{R:Type}(a:(List Int))(b:Int)(c:(List Int))(d e:Int)(f:(List Int)->Int->(List Int)->Int->Option R):Option R:=
 bif(aa c+aa ([e]:List Int))*1<=140737488355328 then f a b (c++([e]:List Int)) (zW zI (d+1)) else none
def M5:Nat->(List Int)->Int->(List Int)->Int->Int->Int->Option ((List Int)×Int×(List Int)×Int×Int)
 |0,_,_,_,_,_,_=>none
 |k+1,v0,v1,v2,v3,v4,v5=>zki v0 v1 v2 v3 v4 v5 (λa0 a1 a2 a3 a4 a5=>M5 k a0 a1 a2 a3 a4 a5) (λa0 a1 a2 a3 a4=>some (a0,a1,a2,a3,a4))
def M4:Nat->(List Int)->Int->(List Int)->Int->Option (List Int)
 |0,_,_,_,_=>none
 |k+1,v0,v1,v2,v3=>zkh v0 v1 v2 v3 (λa0 a1 a2 a3 a4 a5=>(M5 af a0 a1 a2 a3 a4 a5).bind λe=>BD e.1 e.2.1 e.2.2.1 e.2.2.2.1 e.2.2.2.2 (λa0 a1 a2 a3=>M4 k a0 a1 a2 a3)) (λa0=>some a0)
def xR(a:(List Int))(b:Int):Option ByteArray:=
 BC a b (λa0 a1 a2 a3=>(M4 af a0 a1 a2 a3).bind λe=>Lk e (λa0=>some a0))
def OM{R:Type}(a:Int)(b:(List Int))(c:ByteArray->Bool->Option R)(d:Int->(List Int)->Bool->Int->Option R):Option R:=
 bif !decide (a=1) then bif !decide (a=2) then c (bs []) false else(xQ b (1:Int)).bind λr1=>bif r1 then c (bs []) false else d a b false 65 else(xQ b (1:Int)).bind λr2=>bif r2 then c (bs []) false else d a b false 65
theorem adQ{R S:Type}(F:R->Option S)(a)(b)(c)(d):(OM a b c d).bind F=OM a b (λa0 a1=>(c a0 a1).bind F) (λa0 a1 a2 a3=>(d a0 a1 a2 a3).bind F):=by simp only[OM,av]
def zkf{R:Type}(a:Int)(b:(List Int))(c:Bool)(d:Int)(e:Int->(List Int)->Bool->Int->Option R)(f:Int->(List Int)->Bool->Option R):Option R:=
 bif d<=128 then bif c then e a b true (zW zI (d+1)) else(xQ b d).bind λr3=>e a b r3 (zW zI (d+1)) else f a b c
def zkg{R:Type}(a:Int)(b:(List Int))(c:Bool)(d:ByteArray->Bool->Option R):Option R:=
 (xR b (1:Int)).bind λr4=>bif c then bif(aa ([(1:Int)]:List Int)+aa b)*8<=140737488355328 then(xR (([1]:List Int)++b) (1:Int)).bind λr5=>(xR b (65:Int)).bind λr6=>bif r5.size+r6.size<=9223372036854775807 then bif a=1 then(yM (r5++r6)).bind λr7=>d r7 true else d (r5++r6) true else none else none else bif a=1 then(yM r4).bind λr8=>d r8 true else d r4 true
def FH:Nat->Int->(List Int)->Bool->Int->Option (Int×(List Int)×Bool)
 |0,_,_,_,_=>none
 |k+1,v0,v1,v2,v3=>zkf v0 v1 v2 v3 (λa0 a1 a2 a3=>FH k a0 a1 a2 a3) (λa0 a1 a2=>some (a0,a1,a2))
def PD(a:Int)(b:(List Int)):Option iH:=
 OM a b (λa0 a1=>some (a0,a1)) (λa0 a1 a2 a3=>(FH af a0 a1 a2 a3).bind λe=>zkg e.1 e.2.1 e.2.2 (λa0 a1=>some (a0,a1)))
def zkl{R:Type}(a:Int)(b:Int->Option R):Option R:=
 bif a=2 then b a else bif a=3 then b a else b 0
def Dd(a:Int):Option Int:=
 zkl a (λa0=>some a0)
def BI{R:Type}(a b:Int)(c:ByteArray)(d:Int)(e:Int->Int->Int->Option R):Option R:=
 bif !decide (a=1) then bif !decide (a=2) then e 0 0 1 else(Dd b).bind λr1=>bif r1=0 then e 0 0 1 else bif d<0 then e 0 0 1 else bif(c.size:Int)<d then e 0 0 1 else bif a=2 then bif zW zI ((c.size:Int)-d)<zW zI (b-1) then e 0 0 2 else bif 0<=zW zI (d+zW zI (b-1)) then bif zW zI (d+zW zI (b-1))<=(c.size:Int) then bif 0<=d then bif d<=(((zW zI (d+zW zI (b-(1:Int)))).toNat:Nat):Int) then bif a=2 then(ux (c.extract d.toNat (zW zI (d+zW zI (b-(1:Int)))).toNat) b).bind λr2=>bif !decide (r2.2.1=0) then e 0 0 3 else(qC r2.1).bind λr3=>bif !r3.2 then e 0 0 3 else e r3.1 (zW zI (d+zW zI (b-1))) 0 else(qC (c.extract d.toNat (zW zI (d+zW zI (b-(1:Int)))).toNat)).bind λr4=>bif !r4.2 then e 0 0 3 else e r4.1 (zW zI (d+zW zI (b-1))) 0 else none else none else none else none else bif zW zI ((c.size:Int)-d)<b then e 0 0 2 else bif 0<=zW zI (d+b) then bif zW zI (d+b)<=(c.size:Int) then bif 0<=d then bif d<=(((zW zI (d+b)).toNat:Nat):Int) then bif a=2 then(ux (c.extract d.toNat (zW zI (d+b)).toNat) b).bind λr5=>bif !decide (r5.2.1=0) then e 0 0 3 else(qC r5.1).bind λr6=>bif !r6.2 then e 0 0 3 else e r6.1 (zW zI (d+b)) 0 else(qC (c.extract d.toNat (zW zI (d+b)).toNat)).bind λr7=>bif !r7.2 then e 0 0 3 else e r7.1 (zW zI (d+b)) 0 else none else none else none else none else(Dd b).bind λr8=>bif r8=0 then e 0 0 1 else bif d<0 then e 0 0 1 else bif(c.size:Int)<d then e 0 0 1 else bif a=2 then bif zW zI ((c.size:Int)-d)<zW zI (b-1) then e 0 0 2 else bif 0<=zW zI (d+zW zI (b-1)) then bif zW zI (d+zW zI (b-1))<=(c.size:Int) then bif 0<=d then bif d<=(((zW zI (d+zW zI (b-(1:Int)))).toNat:Nat):Int) then bif a=2 then(ux (c.extract d.toNat (zW zI (d+zW zI (b-(1:Int)))).toNat) b).bind λr9=>bif !decide (r9.2.1=0) then e 0 0 3 else(qC r9.1).bind λj4=>bif !j4.2 then e 0 0 3 else e j4.1 (zW zI (d+zW zI (b-1))) 0 else(qC (c.extract d.toNat (zW zI (d+zW zI (b-(1:Int)))).toNat)).bind λjt=>bif !jt.2 then e 0 0 3 else e jt.1 (zW zI (d+zW zI (b-1))) 0 else none else none else none else none else bif zW zI ((c.size:Int)-d)<b then e 0 0 2 else bif 0<=zW zI (d+b) then bif zW zI (d+b)<=(c.size:Int) then bif 0<=d then bif d<=(((zW zI (d+b)).toNat:Nat):Int) then bif a=2 then(ux (c.extract d.toNat (zW zI (d+b)).toNat) b).bind λlD=>bif !decide (lD.2.1=0) then e 0 0 3 else(qC lD.1).bind λju=>bif !ju.2 then e 0 0 3 else e ju.1 (zW zI (d+b)) 0 else(qC (c.extract d.toNat (zW zI (d+b)).toNat)).bind λpV=>bif !pV.2 then e 0 0 3 else e pV.1 (zW zI (d+b)) 0 else none else none else none else none
def PE(a b:Int)(c:ByteArray)(d:Int):Option jy:=
 BI a b c d (λa0 a1 a2=>some (a0,a1,a2))
def BJ{R:Type}(a b c:Int)(d:ByteArray->Int->Option R):Option R:=
 bif !decide (a=1) then bif !decide (a=2) then d (bs []) 1 else(Dd b).bind λr1=>bif r1=0 then d (bs []) 1 else(F1 c b).bind λr2=>bif !r2.2 then d (bs []) 5 else bif a=2 then(Da r2.1).bind λr3=>d r3.1 0 else d r2.1 0 else(Dd b).bind λr4=>bif r4=0 then d (bs []) 1 else(F1 c b).bind λr5=>bif !r5.2 then d (bs []) 5 else bif a=2 then(Da r5.1).bind λr6=>d r6.1 0 else d r5.1 0
def F3(a b c:Int):Option Ej:=
 BJ a b c (λa0 a1=>some (a0,a1))
def Bp{R:Type}(a b:Int)(c:Bool->Option R):Option R:=
 bif 48<=b then bif 65<=b then bif b<=90 then bif a=1 then c (decide (b<=57)) else bif a=2 then c true else bif a=3 then bif b<=57 then c true else c true else bif a=4 then bif 32<=b then c (decide (b<=126)) else c false else bif a=5 then c true else c (decide (a=6)) else bif 97<=b then bif a=1 then c (decide (b<=57)) else bif a=2 then c (decide (b<=122)) else bif a=3 then bif b<=57 then c true else c (decide (b<=122)) else bif a=4 then bif 32<=b then c (decide (b<=126)) else c false else bif a=5 then c true else c (decide (a=6)) else bif a=1 then c (decide (b<=57)) else bif a=2 then c false else bif a=3 then bif b<=57 then c true else c false else bif a=4 then bif 32<=b then c (decide (b<=126)) else c false else bif a=5 then c true else c (decide (a=6)) else bif 97<=b then bif a=1 then c (decide (b<=57)) else bif a=2 then c (decide (b<=122)) else bif a=3 then bif b<=57 then c true else c (decide (b<=122)) else bif a=4 then bif 32<=b then c (decide (b<=126)) else c false else bif a=5 then c true else c (decide (a=6)) else bif a=1 then c (decide (b<=57)) else bif a=2 then c false else bif a=3 then bif b<=57 then c true else c false else bif a=4 then bif 32<=b then c (decide (b<=126)) else c false else bif a=5 then c true else c (decide (a=6)) else bif 65<=b then bif b<=90 then bif a=1 then c false else bif a=2 then c true else bif a=3 then c true else bif a=4 then bif 32<=b then c (decide (b<=126)) else c false else bif a=5 then c true else c (decide (a=6)) else bif 97<=b then bif a=1 then c false else bif a=2 then c (decide (b<=122)) else bif a=3 then c (decide (b<=122)) else bif a=4 then bif 32<=b then c (decide (b<=126)) else c false else bif a=5 then c true else c (decide (a=6)) else bif a=1 then c false else bif a=2 then c false else bif a=3 then c false else bif a=4 then bif 32<=b then c (decide (b<=126)) else c false else bif a=5 then c true else c (decide (a=6)) else bif 97<=b then bif a=1 then c false else bif a=2 then c (decide (b<=122)) else bif a=3 then c (decide (b<=122)) else bif a=4 then bif 32<=b then c (decide (b<=126)) else c false else bif a=5 then c true else c (decide (a=6)) else bif a=1 then c false else bif a=2 then c false else bif a=3 then c false else bif a=4 then bif 32<=b then c (decide (b<=126)) else c false else bif a=5 then c true else c (decide (a=6))
def Db(a b:Int):Option Bool:=
 Bp a b (λa0=>some a0)
def Bn{R:Type}(a:Int)(b:ByteArray)(c:Int->ByteArray->Int->Option R):Option R:=
 c a b 0
def zkd{R:Type}(a:Int)(b:ByteArray)(c:Int)(d:Int->Option R)(e:Int->ByteArray->Int->Option R)(f:Option R):Option R:=
 bif c<(b.size:Int) then zd c b.size ((Db a (ze b c.toNat)).bind λr1=>bif !r1 then d c else e a b (zW zI (c+1))) else f
def Lb{R:Type}(a:Int)(b:Int->Option R):Option R:=
 b a
def Lc{R:Type}(a:Int->Option R):Option R:=
 a (-1:Int)
def M1:Nat->Int->ByteArray->Int->Option (Sum Int Unit)
 |0,_,_,_=>none
 |k+1,v0,v1,v2=>zkd v0 v1 v2 (λa0=>some (.inl a0)) (λa0 a1 a2=>M1 k a0 a1 a2) (some (.inr ()))
def PA(a:Int)(b:ByteArray):Option Int:=
 Bn a b (λa0 a1 a2=>(M1 af a0 a1 a2).bind λe=>GB (λ(we:Int)=>Lb we (λa0=>some a0)) (λ(we:Unit)=>Lc (λa0=>some a0)) e)
def Bs{R:Type}(a b:Int)(c:Bool->Option R)(d:Int->Int->Int->Option R):Option R:=
 bif a<1 then c false else bif 6<a then c false else bif b<1 then c false else bif 6<b then c false else d a b 0
def Le{R:Type}(a b c:Int)(d:Bool->Option R)(e:Int->Int->Int->Option R)(f:Option R):Option R:=
 bif c<256 then(Db b (zW zU c)).bind λr1=>bif r1 then(Db a (zW zU c)).bind λr2=>bif !r2 then d false else e a b (zW zI (c+1)) else e a b (zW zI (c+1)) else f
def Lf{R:Type}(a:Bool)(b:Bool->Option R):Option R:=
 b a
def Lg{R:Type}(a:Bool->Option R):Option R:=
 a true
def Br:Nat->Int->Int->Int->Option (Sum Bool Unit)
 |0,_,_,_=>none
 |k+1,v0,v1,v2=>Le v0 v1 v2 (λa0=>some (.inl a0)) (λa0 a1 a2=>Br k a0 a1 a2) (some (.inr ()))
def Ni(a b:Int):Option Bool:=
 Bs a b (λa0=>some a0) (λa0 a1 a2=>(Br af a0 a1 a2).bind λe=>GB (λ(we:Bool)=>Lf we (λa0=>some a0)) (λ(we:Unit)=>Lg (λa0=>some a0)) e)
def Ll{R:Type}(a:Int)(b:Int->Option R):Option R:=
 bif a=0 then b 0 else bif zaN (zW zU (zaf a 32)) 2=1 then b 0 else bif zaN a 32=31 then b 2 else b 1
def De(a:Int):Option Int:=
 Ll a (λa0=>some a0)
def zkm{R:Type}(a:ByteArray)(b:Int)(c:Int->Int->Int->Option R):Option R:=
 bif b<0 then c 0 0 1 else bif(a.size:Int)<b then c 0 0 1 else bif b=(a.size:Int) then c 0 0 2 else zd b a.size ((De (ze a b.toNat)).bind λr1=>bif r1=0 then c 0 0 13 else bif r1=1 then zd b a.size (c (zW zI (ze a b.toNat)) (zW zI (b+1)) 0) else bif zW zI ((a.size:Int)-b)<2 then c 0 0 2 else zd (zW zI (b+1)) a.size (bif ze a (zW zI (b+(1:Int))).toNat=0 then c 0 0 13 else zd (zW zI (b+1)) a.size (bif 127<ze a (zW zI (b+(1:Int))).toNat then c 0 0 13 else zd b a.size (zd (zW zI (b+1)) a.size (c (zW zI (zW zI (256*zW zI (ze a b.toNat))+zW zI (ze a (zW zI (b+(1:Int))).toNat))) (zW zI (b+2)) 0)))))
def Df(a:ByteArray)(b:Int):Option jy:=
 zkm a b (λa0 a1 a2=>some (a0,a1,a2))
def zkn{R:Type}(a:ByteArray)(b:Int)(c:Int->Int->Int->Option R):Option R:=
 bif b<0 then c 0 0 1 else bif(a.size:Int)<b then c 0 0 1 else bif b=(a.size:Int) then c 0 0 2 else zd b a.size (bif zW zI (ze a b.toNat)<128 then c (zW zI (ze a b.toNat)) (zW zI (b+1)) 0 else bif !decide (zW zI (ze a b.toNat)=129) then bif !decide (zW zI (ze a b.toNat)=130) then c 0 0 14 else bif zW zI ((a.size:Int)-b)<zW zI (zW zI (ze a b.toNat)-127) then c 0 0 2 else bif zW zI (ze a b.toNat)=129 then zd (zW zI (b+1)) a.size (bif ze a (zW zI (b+(1:Int))).toNat<128 then c 0 0 14 else zd (zW zI (b+1)) a.size (c (zW zI (ze a (zW zI (b+(1:Int))).toNat)) (zW zI (b+2)) 0)) else zd (zW zI (b+1)) a.size (bif ze a (zW zI (b+(1:Int))).toNat=0 then c 0 0 14 else zd (zW zI (b+1)) a.size (zd (zW zI (b+2)) a.size (c (zW zI (zW zI (256*zW zI (ze a (zW zI (b+(1:Int))).toNat))+zW zI (ze a (zW zI (b+(2:Int))).toNat))) (zW zI (b+3)) 0))) else bif zW zI ((a.size:Int)-b)<zW zI (zW zI (ze a b.toNat)-127) then c 0 0 2 else bif zW zI (ze a b.toNat)=129 then zd (zW zI (b+1)) a.size (bif ze a (zW zI (b+(1:Int))).toNat<128 then c 0 0 14 else zd (zW zI (b+1)) a.size (c (zW zI (ze a (zW zI (b+(1:Int))).toNat)) (zW zI (b+2)) 0)) else zd (zW zI (b+1)) a.size (bif ze a (zW zI (b+(1:Int))).toNat=0 then c 0 0 14 else zd (zW zI (b+1)) a.size (zd (zW zI (b+2)) a.size (c (zW zI (zW zI (256*zW zI (ze a (zW zI (b+(1:Int))).toNat))+zW zI (ze a (zW zI (b+(2:Int))).toNat))) (zW zI (b+3)) 0))))
def Dg(a:ByteArray)(b:Int):Option jy:=
 zkn a b (λa0 a1 a2=>some (a0,a1,a2))
def BM{R:Type}(a:al)(b c:Int)(d:al->Int->Int->Int->Option R):Option R:=
 d a b c 0
def zkq{R:Type}(a:al)(b c d:Int)(e:Bool->Option R)(f:al->Int->Int->Int->Option R)(g:Option R):Option R:=
 bif d<b then zd d (aa a) (bif(an a d.toNat (0,bs [],())).1=c then e true else f a b c (zW zI (d+1))) else g
def Lq{R:Type}(a:Bool)(b:Bool->Option R):Option R:=
 b a
def Lr{R:Type}(a:Bool->Option R):Option R:=
 a false
def M7:Nat->al->Int->Int->Int->Option (Sum Bool Unit)
 |0,_,_,_,_=>none
 |k+1,v0,v1,v2,v3=>zkq v0 v1 v2 v3 (λa0=>some (.inl a0)) (λa0 a1 a2 a3=>M7 k a0 a1 a2 a3) (some (.inr ()))
def PG(a:al)(b c:Int):Option Bool:=
 BM a b c (λa0 a1 a2 a3=>(M7 af a0 a1 a2 a3).bind λe=>GB (λ(we:Bool)=>Lq we (λa0=>some a0)) (λ(we:Unit)=>Lr (λa0=>some a0)) e)
def zko{R:Type}(a:ByteArray)(b:ByteArray->al->Int->Option R):Option R:=
 b a [] 0
def zkp{R:Type}(a:ByteArray)(b:al)(c:Int)(d:al->Int->Int->al->Option R)(e:ByteArray->al->Int->Option R)(f:al->Option R):Option R:=
 bif c<(a.size:Int) then(Df a c).bind λr1=>bif !decide (r1.2.2=0) then d [] r1.2.2 c b else(Dg a r1.2.1).bind λr2=>bif !decide (r2.2.2=0) then d [] r2.2.2 r1.2.1 b else bif zW zI ((a.size:Int)-r2.2.1)<r2.1 then d [] 2 (a.size:Int) b else(PG b ((aa b):Int) r1.1).bind λr3=>bif r3 then d [] 10 c b else bif 0<=zW zI (r2.2.1+r2.1) then bif zW zI (r2.2.1+r2.1)<=(a.size:Int) then bif 0<=r2.2.1 then bif r2.2.1<=(((zW zI (r2.2.1+r2.1)).toNat:Nat):Int) then bif(aa b+aa ([(r1.1,a.extract r2.2.1.toNat (zW zI (r2.2.1+r2.1)).toNat,())]:List aT))*24<=140737488355328 then e a (b++([(r1.1,a.extract r2.2.1.toNat (zW zI (r2.2.1+r2.1)).toNat,())]:List aT)) (zW zI (r2.2.1+r2.1)) else none else none else none else none else none else f b
def Ln{R:Type}(a:al)(b c:Int)(d:al)(e:al->Int->Int->Option R):Option R:=
 e a b c
def Lo{R:Type}(a:al)(b:al->Int->Int->Option R):Option R:=
 b a 0 0
def FJ:Nat->ByteArray->al->Int->Option (Sum tu al)
 |0,_,_,_=>none
 |k+1,v0,v1,v2=>zkp v0 v1 v2 (λa0 a1 a2 a3=>some (.inl (a0,a1,a2,a3))) (λa0 a1 a2=>FJ k a0 a1 a2) (λa0=>some (.inr a0))
def Dh(a:ByteArray):Option (Sum kh kh):=
 zko a (λa0 a1 a2=>(FJ af a0 a1 a2).bind λe=>GB (λ(we:tu)=>Ln we.1 we.2.1 we.2.2.1 we.2.2.2 (λa0 a1 a2=>some (.inl (a0,a1,a2)))) (λ(we:al)=>Lo we (λa0 a1 a2=>some (.inr (a0,a1,a2)))) e)
def BN{R:Type}(a:aA)(b:Int->Option R):Option R:=
 bif a.1<2 then b 1 else bif 128<a.1 then b 1 else bif a.2.1<1 then b 6 else bif 6<a.2.1 then b 6 else bif a.2.2.1<1 then b 3 else bif 3<a.2.2.1 then b 3 else bif a.2.2.1=2 then bif a.2.2.2.1<1 then b 5 else bif a.2.2.2.2.1<a.2.2.2.1 then b 5 else bif 99<a.2.2.2.2.1 then b 5 else bif a.2.2.1=1 then bif !decide (a.2.2.2.1=a.2.2.2.2.1) then b 5 else bif a.2.2.1=1 then bif a.2.1=6 then b 13 else b 0 else b 0 else bif a.2.2.1=1 then bif a.2.1=6 then b 13 else b 0 else b 0 else bif a.2.2.2.1<1 then b 5 else bif a.2.2.2.2.1<a.2.2.2.1 then b 5 else bif 999<a.2.2.2.2.1 then b 5 else bif a.2.2.1=1 then bif !decide (a.2.2.2.1=a.2.2.2.2.1) then b 5 else bif a.2.2.1=1 then bif a.2.1=6 then b 13 else b 0 else b 0 else bif a.2.2.1=1 then bif a.2.1=6 then b 13 else b 0 else b 0
def xS(a:aA):Option Int:=
 BN a (λa0=>some a0)
def OO{R:Type}(a:aA)(b:ByteArray)(c:Int->Option R):Option R:=
 (xS a).bind λr1=>bif !decide (r1=0) then c 1 else bif(b.size:Int)<a.2.2.2.1 then c 5 else bif a.2.2.2.2.1<(b.size:Int) then c 5 else(PA a.2.1 b).bind λr2=>bif 0<=r2 then c 6 else bif a.2.1=6 then(Dh b).bind λr3=>GB (λ(uG:kh)=>bif !decide (uG.2.1=0) then c 13 else c 0) (λ(uG:kh)=>bif !decide (uG.2.1=0) then c 13 else c 0) r3 else c 0
def kg(a:aA)(b:ByteArray):Option Int:=
 OO a b (λa0=>some a0)
def OP{R:Type}(a b:aA)(c:Bool->Option R):Option R:=
 (xS a).bind λr1=>bif !decide (r1=0) then c false else(xS b).bind λr2=>bif !decide (r2=0) then c false else bif b.2.2.2.1<a.2.2.2.1 then c false else bif a.2.2.2.2.1<b.2.2.2.2.1 then c false else bif a.2.1=5 then c true else bif a.2.1=6 then c (decide (a.2.1=b.2.1)) else bif b.2.1=6 then c (decide (a.2.1=b.2.1)) else(Ni a.2.1 b.2.1).bind λr3=>c r3
def xT(a b:aA):Option Bool:=
 OP a b (λa0=>some a0)
def OU{R:Type}(a:Int)(b:aA)(c:ByteArray)(d:Int)(e:Int->ByteArray->Int->Bool->aA->Option R):Option R:=
 bif !decide (a=1) then bif !decide (a=2) then e a c d true b else(xS b).bind λr1=>bif !decide (r1=0) then e a c d true b else bif d<0 then e a c d true b else e a c d (decide ((c.size:Int)<d)) b else(xS b).bind λr2=>bif !decide (r2=0) then e a c d true b else bif d<0 then e a c d true b else e a c d (decide ((c.size:Int)<d)) b
theorem adS{R S:Type}(F:R->Option S)(a)(b)(c)(d)(e):(OU a b c d e).bind F=OU a b c d (λa0 a1 a2 a3 a4=>(e a0 a1 a2 a3 a4).bind F):=by simp only[OU,av]
def BP{R:Type}(a:Int)(b:ByteArray)(c:Int)(d:Bool)(e:aA)(f:ByteArray->Int->Int->Option R)(g:Int->ByteArray->Int->aA->Option R):Option R:=
 bif d then f (bs []) 0 1 else g a b c e
def z116{R:Type}(a:Int)(b:ByteArray)(c:Int)(d:aA)(e:ByteArray->Int->Int->Option R)(f g:Int->ByteArray->Int->Int->aA->Option R):Option R:=
 bif !decide (d.2.2.1=1) then(PE a d.2.2.1 b c).bind λr3=>bif !decide (r3.2.2=0) then e (bs []) 0 r3.2.2 else f a b r3.1 r3.2.1 d else g a b c d.2.2.2.2.1 d
def OV{R:Type}(a:Int)(b:ByteArray)(c d:Int)(e:aA)(f:Int->ByteArray->Int->Int->Bool->aA->Option R):Option R:=
 bif c<e.2.2.2.1 then f a b c d true e else f a b c d (decide (e.2.2.2.2.1<c)) e
theorem adT{R S:Type}(F:R->Option S)(a)(b)(c)(d)(e)(f):(OV a b c d e f).bind F=OV a b c d e (λa0 a1 a2 a3 a4 a5=>(f a0 a1 a2 a3 a4 a5).bind F):=by simp only[OV,av]
def CG{R:Type}(a:Int)(b:ByteArray)(c d:Int)(e:aA)(f:Int->ByteArray->Int->Int->Int->Bool->aA->Option R):Option R:=
 bif a=2 then f a b c d d (decide (e.2.1=1)) e else f a b c d d false e
theorem adU{R S:Type}(F:R->Option S)(a)(b)(c)(d)(e)(f):(CG a b c d e f).bind F=CG a b c d e (λa0 a1 a2 a3 a4 a5 a6=>(f a0 a1 a2 a3 a4 a5 a6).bind F):=by simp only[CG,av]
def z117{R:Type}(a:Int)(b:ByteArray)(c d:Int)(e:Bool)(f:aA)(g:ByteArray->Int->Int->Option R)(h:Int->ByteArray->Int->Int->aA->Option R):Option R:=
 bif e then g (bs []) 0 5 else h a b c d f
def CH{R:Type}(a:Int)(b:ByteArray)(c d e:Int)(f:Bool)(g:aA)(h:Int->ByteArray->Int->Int->Int->aA->Option R):Option R:=
 bif f then h a b c d (zW zI (zaf (zW zI (d+1)) 2)) g else h a b c d e g
theorem adV{R S:Type}(F:R->Option S)(a)(b)(c)(d)(e)(f)(g)(h):(CH a b c d e f g h).bind F=CH a b c d e f g (λa0 a1 a2 a3 a4 a5=>(h a0 a1 a2 a3 a4 a5).bind F):=by simp only[CH,av]
def BQ{R:Type}(a:Int)(b:ByteArray)(c d:Int)(e:aA)(f:Int->ByteArray->Int->Int->aA->Option R):Option R:=
 f a b d c e
def CI{R:Type}(a:Int)(b:ByteArray)(c d e:Int)(f:aA)(g:Int->ByteArray->Int->Int->Int->Bool->aA->Option R):Option R:=
 bif a=1 then g a b c d e (decide (5<=f.2.1)) f else g a b c d e false f
theorem adW{R S:Type}(F:R->Option S)(a)(b)(c)(d)(e)(f)(g):(CI a b c d e f g).bind F=CI a b c d e f (λa0 a1 a2 a3 a4 a5 a6=>(g a0 a1 a2 a3 a4 a5 a6).bind F):=by simp only[CI,av]
def CJ{R:Type}(a:Int)(b:ByteArray)(c d e:Int)(f:Bool)(g:aA)(h:Int->ByteArray->Int->Int->Int->aA->Option R):Option R:=
 bif f then h a b c d (zW zI (d+d)) g else h a b c d e g
theorem adX{R S:Type}(F:R->Option S)(a)(b)(c)(d)(e)(f)(g)(h):(CJ a b c d e f g h).bind F=CJ a b c d e f g (λa0 a1 a2 a3 a4 a5=>(h a0 a1 a2 a3 a4 a5).bind F):=by simp only[CJ,av]
def MA{R:Type}(a:Int)(b:ByteArray)(c d e:Int)(f:aA)(g:ByteArray->Int->Int->Option R)(h:Int->ByteArray->Int->Int->Int->aA->Option R):Option R:=
 bif zW zI ((b.size:Int)-c)<e then g (bs []) 0 2 else h a b c d e f
def Cz{R:Type}(a:Int)(b:ByteArray)(c d e:Int)(f:aA)(g:Int->Int->Int->Int->ByteArray->Bool->aA->Option R):Option R:=
 bif 0<=zW zI (c+e) then bif zW zI (c+e)<=(b.size:Int) then bif 0<=c then bif c<=(((zW zI (c+e)).toNat:Nat):Int) then bif a=2 then g a c d e (b.extract c.toNat (zW zI (c+e)).toNat) (decide (f.2.1=1)) f else g a c d e (b.extract c.toNat (zW zI (c+e)).toNat) false f else none else none else none else none
theorem adl{R S:Type}(F:R->Option S)(a)(b)(c)(d)(e)(f)(g):(Cz a b c d e f g).bind F=Cz a b c d e f (λa0 a1 a2 a3 a4 a5 a6=>(g a0 a1 a2 a3 a4 a5 a6).bind F):=by simp only[Cz,av]
def MB{R:Type}(a b c d:Int)(e:ByteArray)(f:Bool)(g:aA)(h:ByteArray->Int->Int->Option R)(i j:Int->Int->Int->ByteArray->aA->Option R):Option R:=
 bif f then(ux e c).bind λr4=>bif !decide (r4.2.1=0) then h (bs []) 0 r4.2.1 else i a b d r4.1 g else j a b d e g
def z85{R:Type}(a b c:Int)(d:ByteArray)(e:aA)(f:Int->Int->Int->ByteArray->aA->Option R):Option R:=
 f a b c d e
def CA{R:Type}(a b c:Int)(d:ByteArray)(e:aA)(f:Int->Int->ByteArray->Bool->aA->Option R):Option R:=
 bif a=1 then f b c d (decide (5<=e.2.1)) e else f b c d false e
theorem adn{R S:Type}(F:R->Option S)(a)(b)(c)(d)(e)(f):(CA a b c d e f).bind F=CA a b c d e (λa0 a1 a2 a3 a4=>(f a0 a1 a2 a3 a4).bind F):=by simp only[CA,av]
def MC{R:Type}(a b:Int)(c:ByteArray)(d:Bool)(e:aA)(f:ByteArray->Int->Int->Option R)(g h:Int->Int->ByteArray->aA->Option R):Option R:=
 bif d then(C9 c).bind λr5=>bif !r5.2.2 then f (bs []) 0 3 else g a b r5.1 e else h a b c e
def z87{R:Type}(a b:Int)(c:ByteArray)(d:aA)(e:Int->Int->ByteArray->aA->Option R):Option R:=
 e a b c d
def MD{R:Type}(a b:Int)(c:ByteArray)(d:aA)(e:ByteArray->Int->Int->Option R)(f:Int->Int->ByteArray->Option R):Option R:=
 (kg d c).bind λr6=>bif !decide (r6=0) then e (bs []) 0 r6 else f a b c
def ME{R:Type}(a b:Int)(c:ByteArray)(d:ByteArray->Int->Int->Option R):Option R:=
 d c (zW zI (a+b)) 0
def Oq(a b:Int)(c:ByteArray):Option jM:=
 ME a b c (λa0 a1 a2=>some (a0,a1,a2))
def Mz(a b:Int)(c:ByteArray)(d:aA):Option jM:=
 MD a b c d (λa0 a1 a2=>some (a0,a1,a2)) (λa0 a1 a2=>Oq a0 a1 a2)
def Oo(a b:Int)(c:ByteArray)(d:aA):Option jM:=
 z87 a b c d (λa0 a1 a2 a3=>Mz a0 a1 a2 a3)
def On(a b:Int)(c:ByteArray)(d:Bool)(e:aA):Option jM:=
 MC a b c d e (λa0 a1 a2=>some (a0,a1,a2)) (λa0 a1 a2 a3=>Oo a0 a1 a2 a3) (λa0 a1 a2 a3=>Mz a0 a1 a2 a3)
def My(a b c:Int)(d:ByteArray)(e:aA):Option jM:=
 CA a b c d e (λa0 a1 a2 a3 a4=>On a0 a1 a2 a3 a4)
def Om(a b c:Int)(d:ByteArray)(e:aA):Option jM:=
 z85 a b c d e (λa0 a1 a2 a3 a4=>My a0 a1 a2 a3 a4)
def Ol(a b c d:Int)(e:ByteArray)(f:Bool)(g:aA):Option jM:=
 MB a b c d e f g (λa0 a1 a2=>some (a0,a1,a2)) (λa0 a1 a2 a3 a4=>Om a0 a1 a2 a3 a4) (λa0 a1 a2 a3 a4=>My a0 a1 a2 a3 a4)
def Ok(a:Int)(b:ByteArray)(c d e:Int)(f:aA):Option jM:=
 Cz a b c d e f (λa0 a1 a2 a3 a4 a5 a6=>Ol a0 a1 a2 a3 a4 a5 a6)
def OT(a:Int)(b:ByteArray)(c d e:Int)(f:aA):Option jM:=
 MA a b c d e f (λa0 a1 a2=>some (a0,a1,a2)) (λa0 a1 a2 a3 a4 a5=>Ok a0 a1 a2 a3 a4 a5)
def OS(a:Int)(b:ByteArray)(c d e:Int)(f:Bool)(g:aA):Option jM:=
 CJ a b c d e f g (λa0 a1 a2 a3 a4 a5=>OT a0 a1 a2 a3 a4 a5)
def OR(a:Int)(b:ByteArray)(c d e:Int)(f:aA):Option jM:=
 CI a b c d e f (λa0 a1 a2 a3 a4 a5 a6=>OS a0 a1 a2 a3 a4 a5 a6)
def OQ(a:Int)(b:ByteArray)(c d e:Int)(f:Bool)(g:aA):Option jM:=
 CH a b c d e f g (λa0 a1 a2 a3 a4 a5=>OR a0 a1 a2 a3 a4 a5)
def xJ(a:Int)(b:ByteArray)(c d:Int)(e:aA):Option jM:=
 CG a b c d e (λa0 a1 a2 a3 a4 a5 a6=>OQ a0 a1 a2 a3 a4 a5 a6)
def Lw(a:Int)(b:ByteArray)(c d:Int)(e:aA):Option jM:=
 BQ a b c d e (λa0 a1 a2 a3 a4=>xJ a0 a1 a2 a3 a4)
def Lv(a:Int)(b:ByteArray)(c d:Int)(e:Bool)(f:aA):Option jM:=
 z117 a b c d e f (λa0 a1 a2=>some (a0,a1,a2)) (λa0 a1 a2 a3 a4=>Lw a0 a1 a2 a3 a4)
def Lu(a:Int)(b:ByteArray)(c d:Int)(e:aA):Option jM:=
 OV a b c d e (λa0 a1 a2 a3 a4 a5=>Lv a0 a1 a2 a3 a4 a5)
def BO(a:Int)(b:ByteArray)(c:Int)(d:aA):Option jM:=
 z116 a b c d (λa0 a1 a2=>some (a0,a1,a2)) (λa0 a1 a2 a3 a4=>Lu a0 a1 a2 a3 a4) (λa0 a1 a2 a3 a4=>xJ a0 a1 a2 a3 a4)
def Lt(a:Int)(b:ByteArray)(c:Int)(d:Bool)(e:aA):Option jM:=
 BP a b c d e (λa0 a1 a2=>some (a0,a1,a2)) (λa0 a1 a2 a3=>BO a0 a1 a2 a3)
def Nj(a:Int)(b:aA)(c:ByteArray)(d:Int):Option jM:=
 OU a b c d (λa0 a1 a2 a3 a4=>Lt a0 a1 a2 a3 a4)
def BR{R:Type}(a b:Int)(c:ByteArray)(d:ByteArray->Option R):Option R:=
 bif a=2 then bif b=1 then(Da c).bind λr1=>d r1.1 else bif a=1 then bif 5<=b then(yM c).bind λr2=>d r2 else d c else d c else bif a=1 then bif 5<=b then(yM c).bind λr3=>d r3 else d c else d c
def xU(a b:Int)(c:ByteArray):Option ByteArray:=
 BR a b c (λa0=>some a0)
def z119{R:Type}(a:Int)(b:aA)(c:ByteArray)(d:ByteArray->Int->Option R):Option R:=
 bif !decide (a=1) then bif !decide (a=2) then d (bs []) 1 else(kg b c).bind λr1=>bif !decide (r1=0) then d (bs []) r1 else bif !decide (b.2.2.1=1) then(F3 a b.2.2.1 (c.size:Int)).bind λr2=>(xU a b.2.1 c).bind λr3=>bif r2.1.size+r3.size<=9223372036854775807 then d (r2.1++r3) 0 else none else(xU a b.2.1 c).bind λr4=>bif(bs []).size+r4.size<=9223372036854775807 then d (bs []++r4) 0 else none else(kg b c).bind λr5=>bif !decide (r5=0) then d (bs []) r5 else bif !decide (b.2.2.1=1) then(F3 a b.2.2.1 (c.size:Int)).bind λr6=>(xU a b.2.1 c).bind λr7=>bif r6.1.size+r7.size<=9223372036854775807 then d (r6.1++r7) 0 else none else(xU a b.2.1 c).bind λr8=>bif(bs []).size+r8.size<=9223372036854775807 then d (bs []++r8) 0 else none
def F4(a:Int)(b:aA)(c:ByteArray):Option Ej:=
 z119 a b c (λa0 a1=>some (a0,a1))
def BV{R:Type}(a:ah)(b:ah->Option R):Option R:=
 bif(aa ([]:List aA)+aa a.2.2.1)*40<=140737488355328 then b (a.1,a.2.1,[]++a.2.2.1,()) else none
def PK(a:ah):Option ah:=
 BV a (λa0=>some a0)
def OW{R:Type}(a:ah)(b:Int->Int->Option R)(c:Int->Int->ah->Option R):Option R:=
 bif !decide (a.1=1) then bif !decide (a.1=2) then b 1 (-1:Int) else bif a.2.1<0 then b 7 (-1:Int) else bif 9<a.2.1 then b 7 (-1:Int) else c 0 0 a else bif a.2.1<0 then b 7 (-1:Int) else bif 9<a.2.1 then b 7 (-1:Int) else c 0 0 a
theorem adY{R S:Type}(F:R->Option S)(a)(b)(c):(OW a b c).bind F=OW a (λa0 a1=>(b a0 a1).bind F) (λa0 a1 a2=>(c a0 a1 a2).bind F):=by simp only[OW,av]
def zkr{R:Type}(a b:Int)(c:ah)(d:Int->Int->Option R)(e:Int->Int->ah->Option R)(f:Option R):Option R:=
 bif b<((aa c.2.2.1):Int) then zd b (aa c.2.2.1) ((xS (an c.2.2.1 b.toNat (0,0,0,0,0,()))).bind λr1=>bif !decide (r1=0) then d r1 b else zd b (aa c.2.2.1) (bif(an c.2.2.1 b.toNat (0,0,0,0,0,())).1<=a then d 11 b else zd b (aa c.2.2.1) (e (an c.2.2.1 b.toNat (0,0,0,0,0,())).1 (zW zI (b+1)) c))) else f
def BT{R:Type}(a b:Int)(c:Int->Int->Option R):Option R:=
 c a b
def BU{R:Type}(a:Int->Int->Option R):Option R:=
 a 0 0
def CK:Nat->Int->Int->ah->Option (Sum (Int×Int) Unit)
 |0,_,_,_=>none
 |k+1,v0,v1,v2=>zkr v0 v1 v2 (λa0 a1=>some (.inl (a0,a1))) (λa0 a1 a2=>CK k a0 a1 a2) (some (.inr ()))
def PJ(a:ah):Option (Int×Int):=
 OW a (λa0 a1=>some (a0,a1)) (λa0 a1 a2=>(CK af a0 a1 a2).bind λe=>GB (λ(we:(Int×Int))=>BT we.1 we.2 (λa0 a1=>some (a0,a1))) (λ(we:Unit)=>BU (λa0 a1=>some (a0,a1))) e)
def BZ{R:Type}(a:ah)(b:Bool->Option R):Option R:=
 (PJ a).bind λr1=>b (decide (r1.1=0))
def yQ(a:ah):Option Bool:=
 BZ a (λa0=>some a0)
def BX{R:Type}(a:ah)(b:Int)(c:Int->Int->ah->Option R):Option R:=
 c b 0 a
def Lz{R:Type}(a b:Int)(c:ah)(d:Int->Option R)(e:Int->Int->ah->Option R)(f:Option R):Option R:=
 bif b<((aa c.2.2.1):Int) then zd b (aa c.2.2.1) (bif(an c.2.2.1 b.toNat (0,0,0,0,0,())).1=a then d b else e a (zW zI (b+1)) c) else f
def LA{R:Type}(a:Int)(b:Int->Option R):Option R:=
 b a
def LB{R:Type}(a:Int->Option R):Option R:=
 a (-1:Int)
def zks:Nat->Int->Int->ah->Option (Sum Int Unit)
 |0,_,_,_=>none
 |k+1,v0,v1,v2=>Lz v0 v1 v2 (λa0=>some (.inl a0)) (λa0 a1 a2=>zks k a0 a1 a2) (some (.inr ()))
def uy(a:ah)(b:Int):Option Int:=
 BX a b (λa0 a1 a2=>(zks af a0 a1 a2).bind λe=>GB (λ(we:Int)=>LA we (λa0=>some a0)) (λ(we:Unit)=>LB (λa0=>some a0)) e)
def zmw{R:Type}(a:ByteArray)(b:Bool->Option R):Option R:=
 bif(a.size:Int)=4 then(C8 a).bind λr1=>b r1 else b false
def kH(a:ByteArray):Option Bool:=
 zmw a (λa0=>some a0)
def B5{R:Type}(a:ByteArray)(b:Bool->Option R):Option R:=
 (qC a).bind λr1=>bif r1.2 then bif(a.size:Int)=4 then bif zaN (zW zI (zaf r1.1 10)) 10=0 then b true else b (decide (zaN (zW zI (zaf r1.1 10)) 10=2)) else b false else b false
def F5(a:ByteArray):Option Bool:=
 B5 a (λa0=>some a0)
def zmv{R:Type}(a:ByteArray)(b:ByteArray->Option R):Option R:=
 (qC a).bind λr1=>(F1 (zW zI (r1.1+10)) (4:Int)).bind λr2=>b r2.1
def uU(a:ByteArray):Option ByteArray:=
 zmv a (λa0=>some a0)
def zn0{R:Type}(a:ag)(b:Int)(c:Int->Int->ag->Option R):Option R:=
 c b 0 a
def zn1{R:Type}(a b:Int)(c:ag)(d:Int->Option R)(e:Int->Int->ag->Option R)(f:Option R):Option R:=
 bif b<((aa c.2.1):Int) then zd b (aa c.2.1) (bif(an c.2.1 b.toNat (0,bs [],())).1=a then d b else e a (zW zI (b+1)) c) else f
def Hi{R:Type}(a:Int)(b:Int->Option R):Option R:=
 b a
def Hj{R:Type}(a:Int->Option R):Option R:=
 a (-1:Int)
def Md:Nat->Int->Int->ag->Option (Sum Int Unit)
 |0,_,_,_=>none
 |k+1,v0,v1,v2=>zn1 v0 v1 v2 (λa0=>some (.inl a0)) (λa0 a1 a2=>Md k a0 a1 a2) (some (.inr ()))
def uW(a:ag)(b:Int):Option Int:=
 zn0 a b (λa0 a1 a2=>(Md af a0 a1 a2).bind λe=>GB (λ(we:Int)=>Hi we (λa0=>some a0)) (λ(we:Unit)=>Hj (λa0=>some a0)) e)
def zn8{R:Type}(a:ag)(b:Int)(c:Int->Int->ag->ag->ag->Option R):Option R:=
 c b 0 a (bs [],[],()) (a.1,[],())
def Zy{R:Type}(a b:Int)(c d e:ag)(f:Int->Int->ag->ag->ag->Option R)(g:ag->ag->Option R):Option R:=
 bif b<((aa c.2.1):Int) then zd b (aa c.2.1) (bif !decide ((an c.2.1 b.toNat (0,bs [],())).1=a) then zd b (aa c.2.1) (bif(aa e.2.1+aa ([(an c.2.1 b.toNat ((0:Int),bs [],()))]:List aT))*24<=140737488355328 then f a (zW zI (b+1)) c d (e.1,e.2.1++([(an c.2.1 b.toNat (0,bs [],()))]:List aT),()) else none) else f a (zW zI (b+1)) c d e) else g d e
def Hm{R:Type}(a b:ag)(c:ag->Option R):Option R:=
 c b
def Ct:Nat->Int->Int->ag->ag->ag->Option (ag×ag)
 |0,_,_,_,_,_=>none
 |k+1,v0,v1,v2,v3,v4=>Zy v0 v1 v2 v3 v4 (λa0 a1 a2 a3 a4=>Ct k a0 a1 a2 a3 a4) (λa0 a1=>some (a0,a1))
def uY(a:ag)(b:Int):Option ag:=
 zn8 a b (λa0 a1 a2 a3 a4=>(Ct af a0 a1 a2 a3 a4).bind λe=>Hm e.1 e.2 (λa0=>some a0))
def zn5{R:Type}(a:ag)(b:Int)(c:ByteArray)(d:Int->ByteArray->Bool->Int->ag->ag->ag->Option R):Option R:=
 (uY a b).bind λr1=>d b c false 0 (bs [],[],()) (a.1,[],()) r1
def Zx{R:Type}(a:Int)(b:ByteArray)(c:Bool)(d:Int)(e f g:ag)(h:Int->ByteArray->Bool->Int->ag->ag->ag->Option R)(i:Int->ByteArray->Bool->ag->ag->Option R):Option R:=
 bif d<((aa g.2.1):Int) then bif !c then zd d (aa g.2.1) (bif a<(an g.2.1 d.toNat (0,bs [],())).1 then bif(aa f.2.1+aa ([(a,b,())]:List aT))*24<=140737488355328 then zd d (aa g.2.1) (bif(aa (f.2.1++([(a,b,())]:List aT))+aa ([(an g.2.1 d.toNat ((0:Int),bs [],()))]:List aT))*24<=140737488355328 then h a b true (zW zI (d+1)) e (f.1,(f.2.1++([(a,b,())]:List aT))++([(an g.2.1 d.toNat (0,bs [],()))]:List aT),()) g else none) else none else zd d (aa g.2.1) (bif(aa f.2.1+aa ([(an g.2.1 d.toNat ((0:Int),bs [],()))]:List aT))*24<=140737488355328 then h a b c (zW zI (d+1)) e (f.1,f.2.1++([(an g.2.1 d.toNat (0,bs [],()))]:List aT),()) g else none)) else zd d (aa g.2.1) (bif(aa f.2.1+aa ([(an g.2.1 d.toNat ((0:Int),bs [],()))]:List aT))*24<=140737488355328 then h a b c (zW zI (d+1)) e (f.1,f.2.1++([(an g.2.1 d.toNat (0,bs [],()))]:List aT),()) g else none) else i a b c e f
def zn6{R:Type}(a:Int)(b:ByteArray)(c:Bool)(d e:ag)(f:ag->Option R):Option R:=
 bif !c then bif(aa e.2.1+aa ([(a,b,())]:List aT))*24<=140737488355328 then f (e.1,e.2.1++([(a,b,())]:List aT),()) else none else f e
def Cr:Nat->Int->ByteArray->Bool->Int->ag->ag->ag->Option (Int×ByteArray×Bool×ag×ag)
 |0,_,_,_,_,_,_,_=>none
 |k+1,v0,v1,v2,v3,v4,v5,v6=>Zx v0 v1 v2 v3 v4 v5 v6 (λa0 a1 a2 a3 a4 a5 a6=>Cr k a0 a1 a2 a3 a4 a5 a6) (λa0 a1 a2 a3 a4=>some (a0,a1,a2,a3,a4))
def sT(a:ag)(b:Int)(c:ByteArray):Option ag:=
 zn5 a b c (λa0 a1 a2 a3 a4 a5 a6=>(Cr af a0 a1 a2 a3 a4 a5 a6).bind λe=>zn6 e.1 e.2.1 e.2.2.1 e.2.2.2.1 e.2.2.2.2 (λa0=>some a0))
def zn3{R:Type}(a:ag)(b:(List Int)->Int->ag->Option R):Option R:=
 b [] 0 a
def Hk{R:Type}(a:(List Int))(b:Int)(c:ag)(d:(List Int)->Int->ag->Option R)(e:(List Int)->Option R):Option R:=
 bif b<((aa c.2.1):Int) then zd b (aa c.2.1) (bif(aa a+aa ([(an c.2.1 b.toNat ((0:Int),bs [],())).1]:List Int))*8<=140737488355328 then d (a++([(an c.2.1 b.toNat (0,bs [],())).1]:List Int)) (zW zI (b+1)) c else none) else e a
def Hl{R:Type}(a:(List Int))(b:(List Int)->Option R):Option R:=
 b a
def Zw:Nat->(List Int)->Int->ag->Option (List Int)
 |0,_,_,_=>none
 |k+1,v0,v1,v2=>Hk v0 v1 v2 (λa0 a1 a2=>Zw k a0 a1 a2) (λa0=>some a0)
def uX(a:ag):Option (List Int):=
 zn3 a (λa0 a1 a2=>(Zw af a0 a1 a2).bind λe=>Hl e (λa0=>some a0))
def zmy{R:Type}(a:ah)(b:ag)(c:aH->Option R)(d:Int->Int->ah->ag->aH->Option R):Option R:=
 (yQ a).bind λr1=>bif !r1 then c (1,(-1:Int),()) else(kH b.1).bind λr2=>bif !r2 then c (7,0,()) else zd 0 b.1.size (bif !decide (zW zI (zW zI (ze b.1 ((0:Int)).toNat)-48)=a.2.1) then c (7,0,()) else d 0 0 a b (0,0,()))
def Zv{R:Type}(a b:Int)(c:ah)(d:ag)(e:aH)(f:aH->Option R)(g:Int->Int->ah->ag->aH->Option R)(h:aH->Option R):Option R:=
 bif b<((aa d.2.1):Int) then zd b (aa d.2.1) (bif(an d.2.1 b.toNat (0,bs [],())).1<=a then f (11,(an d.2.1 b.toNat (0,bs [],())).1,()) else(uy c (an d.2.1 b.toNat (0,bs [],())).1).bind λr3=>bif r3<0 then f (9,(an d.2.1 b.toNat (0,bs [],())).1,()) else zd r3 (aa c.2.2.1) (zd b (aa d.2.1) ((kg (an c.2.2.1 r3.toNat (0,0,0,0,0,())) (an d.2.1 b.toNat (0,bs [],())).2.1).bind λr4=>bif !decide (r4=0) then f (r4,(an d.2.1 b.toNat (0,bs [],())).1,()) else g (an d.2.1 b.toNat (0,bs [],())).1 (zW zI (b+1)) c d e))) else h e
def Hf{R:Type}(a:aH)(b:aH->Option R):Option R:=
 b a
def Hg{R:Type}(a:aH)(b:aH->Option R):Option R:=
 b (0,0,())
def yk:Nat->Int->Int->ah->ag->aH->Option (Sum aH aH)
 |0,_,_,_,_,_=>none
 |k+1,v0,v1,v2,v3,v4=>Zv v0 v1 v2 v3 v4 (λa0=>some (.inl a0)) (λa0 a1 a2 a3 a4=>yk k a0 a1 a2 a3 a4) (λa0=>some (.inr a0))
def uV(a:ah)(b:ag):Option aH:=
 zmy a b (λa0=>some a0) (λa0 a1 a2 a3 a4=>(yk af a0 a1 a2 a3 a4).bind λe=>GB (λ(we:aH)=>Hf we (λa0=>some a0)) (λ(we:aH)=>Hg we (λa0=>some a0)) e)
def znb{R:Type}(a:Int)(b:ByteArray)(c:ByteArray->Option R):Option R:=
 bif a=1 then c b else(Da b).bind λr1=>c r1.1
def uZ(a:Int)(b:ByteArray):Option ByteArray:=
 znb a b (λa0=>some a0)
def zna{R:Type}(a:ah)(b:ag)(c:ByteArray->Int->ah->ag->Option R):Option R:=
 (uX b).bind λr1=>(PD a.1 r1).bind λr2=>(uZ a.1 b.1).bind λr3=>bif r3.size+r2.1.size<=9223372036854775807 then c (r3++r2.1) 0 a b else none
def Zz{R:Type}(a:ByteArray)(b:Int)(c:ah)(d:ag)(e:ByteArray->Int->ah->ag->Option R)(f:ByteArray->Option R):Option R:=
 bif b<((aa d.2.1):Int) then zd b (aa d.2.1) ((uy c (an d.2.1 b.toNat (0,bs [],())).1).bind λr4=>zd r4 (aa c.2.2.1) (zd b (aa d.2.1) ((F4 c.1 (an c.2.2.1 r4.toNat (0,0,0,0,0,())) (an d.2.1 b.toNat (0,bs [],())).2.1).bind λr5=>bif a.size+r5.1.size<=9223372036854775807 then e (a++r5.1) (zW zI (b+1)) c d else none))) else f a
def Hn{R:Type}(a:ByteArray)(b:ByteArray->Option R):Option R:=
 b a
def Cu:Nat->ByteArray->Int->ah->ag->Option ByteArray
 |0,_,_,_,_=>none
 |k+1,v0,v1,v2,v3=>Zz v0 v1 v2 v3 (λa0 a1 a2 a3=>Cu k a0 a1 a2 a3) (λa0=>some a0)
def oZ(a:ah)(b:ag):Option ByteArray:=
 zna a b (λa0 a1 a2 a3=>(Cu af a0 a1 a2 a3).bind λe=>Hn e (λa0=>some a0))
end bz

