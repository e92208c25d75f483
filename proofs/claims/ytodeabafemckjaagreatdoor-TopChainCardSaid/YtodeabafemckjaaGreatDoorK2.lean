/- No condition. -/
import Derived.Test.YtodeabafemckjaaGreatDoorK1
import Derived.OpenShut
import Derived.Deep.Slices
import Derived.Shelf.Strings.Repeat
import Derived.KernelRfl
import Derived.Shelf.Strconv.Itoa3
import Derived.Lib.AppendIntMem
import Derived.Shelf.Strings.Search1
set_option linter.unusedVariables false
set_option linter.unusedSimpArgs false
set_option maxRecDepth 100000
open Array renaming getElem?_eq_getElem->bh
open Bool renaming and_eq_true->ap,not_eq_true'->im
open Go renaming undef->aW
open Go.Cell renaming okWide->lm
open Go.DataW renaming trod->fx
open Go.Lib renaming strCells->ew
open Go.Result renaming andThen_ok->aj
open Go.RowKit renaming Below->gZ
open Go.Sem renaming run_bind->ay,run_pure->aG
open Go.Utf8 renaming decode->dw
open Go.Value renaming okWide->my
open Go.World renaming cell?->bT
open Int renaming fdiv->aX,tmod->cB,tdiv->dc
open List renaming length->ag,getD->ah,getD_eq_getElem?_getD->al,getElem?_eq_getElem->av,getElem?_eq_some_iff->aA,replicate->aw,mem_cons_of_mem->aE,mem_cons->aD,mem_of_getElem?->aL,getElem?_map->aP,getElem?_eq_none->aS,take->aJ,all_eq_true->aR,getElem?_append_right->bc,getElem?_append_left->bj,drop->bu,getElem?_cons_succ->bI,getElem?_cons_zero->bU,mem_singleton->cL,any_eq_false->cH,set->b8,mem_iff_getElem?->cX,not_mem_nil->dZ,getElem?_replicate->fm
open Nat renaming eq_of_beq_eq_true->aH,beq->ak,le_refl->aZ,ble->bn
open Option renaming map_eq_some_iff->ax
open Option.some renaming injEq->aC
open Sum renaming elim->aI
namespace Go.Ref
open Go
variable {P:Program} {tq:oK} {E:Env} {X:cc} {s:State} {a:Act}
def nX(X Y:cc):Prop:=Y.w=X.w/\∀g j p n,X.ow g= .row (.r j p) n->Y.ow g= .row (.r j p) n
theorem nX.refl(X:cc):nX X X:=⟨rfl,λ_ _ _ _ h=>h⟩
theorem nX.trans{X Y Z:cc}(h:nX X Y)(k:nX Y Z):nX X Z:=⟨k.1.trans h.1,λg j p n e=>k.2 g j p n (h.2 g j p n e)⟩
theorem cw.Hd{X Y:cc}(h:nX X Y)(hx:Ext X Y)(hβ:Y.β=X.β){j:Nat}{sv:SV}{v:Value}(hn:sv.gi=false)(hr:cw X (.r j) sv v):cw Y (.r j) sv v:=by
 cases sv with
 |undef=>trivial
 |skip=>exact hr
 |jR=>exact hr
 |nE=>exact hr
 |over=>exact hr
 |bY t x own=>
  obtain⟨cs,h1,h2,h3⟩:=hr;refine⟨cs,h1.mono hx,h2,λp hp=> ?_⟩;obtain⟨e,t',xs,v,g0,g1,g2,g3⟩:=h3 p hp;refine⟨e,t',xs,v,g0,g1,g2,?_⟩;rcases g3 with ho|⟨g,cap,cur,k1,k2,k3,k4,k5,k6⟩
  ·exact .inl ho
  ·exact .inr ⟨g,cap,cur,k1,by rw[h.1];exact k2,k3,k4,k5,h.2 _ _ _ _ k6⟩
 |ptr id t p=>obtain⟨r,h1,h2⟩:=hr;exact⟨r,by rw[hβ];exact h1,h2⟩
 |view t x=>obtain⟨ad,cs,h1,h2,h3,h4⟩:=hr;exact⟨ad,cs,h1,h2,h3.mono hx,λi u hi=>hx.cn _ _ (h4 i u hi)⟩
 |cap f t x u y=>exact AA hx.cn hr
 |fc id a b k=>cases hn
theorem adR{X:cc}{i j:Nat}{q:List Nat->Place}:nX X (X.turn i j q):=⟨rfl,λg j p n h=>by simp only[cc.turn,h]⟩
theorem acP{X:cc}{id:Nat}{p:List Nat}{q:List Nat->Place}:nX X (X.p9 id p q):=⟨rfl,λg j p n h=>by simp only[cc.p9,h]⟩
theorem zxh(hE:bO P E):∀(rs:List ResultVar) (X:cc) (s s':State) (l:List SV) (j0:Nat),Rel tq X s a->pZ E s rs=some (l,s')->
 ∃Y vs,Y.w=X.w/\Ext X Y/\nX X Y/\Y.β=X.β/\Rel tq Y s' a/\vs.length=l.length/\(∀(j:Nat) sv v,l[j]? =some sv->vs[j]? =some v->cw Y (.r (j0+j)) sv v)/\l.any SV.gi=false/\
  (rs.mapM (m:=Sem) λx=>match x with
    | .tmp t=>pure (a.tmps.getD t aW)
    | .cell ad t=>do loadVar t (<-asAddr (a.tmps.getD ad aW))).run P X.w= .ok vs X.w
 | [],X,s,s',l,j0,hr,h=>by simp only[pZ,aC,Prod.mk.injEq] at h;obtain⟨rfl,rfl⟩:=h;exact⟨X,[],rfl,Ext.refl X,nX.refl X,rfl,hr,rfl,(λj sv v hl=>by simp at hl),rfl,by simp⟩
 | .tmp t::r,X,s,s',l,j0,hr,h=>by
   simp only[pZ] at h;split at h
   case isTrue=>cases h
   rename_i na;have na:(one (s.slot t)).gi=false:=by simpa using na
   split at h
   case h_2=>cases h
   rename_i l1 s1 h1;cases h;have key:∃Y,Y.w=X.w/\Ext X Y/\nX X Y/\Y.β=X.β/\Rel tq Y (s.close [(t,0)]) a/\cw Y (.r j0) (one (s.slot t)) (a.tmps.getD t aW):=by
    have jI:=hr.cP (.tmp t);cases hs:one (s.slot t) with
    |bY ty x w=>have jI:cw X (.c t 0) (one (s.slot t)) (a.tmps.getD t aW):=jI;rw[hs] at jI;obtain⟨cs,g1,g2,g3⟩:=jI;have hT:ng (s.close [(t,0)]) X (X.turn t 0 (.r j0)):=zzy λp=>lv.close;exact⟨X.turn t 0 (.r j0),rfl,hT.ext,adR,rfl,(hr.close _).mod hT.mod,cs,g1.bE (λ_ _=>hT.cn.1),g2,g3.vg⟩
    |fc id c b n=>rw[hs] at na;cases na
    |_=>refine⟨X,rfl,Ext.refl X,nX.refl X,rfl,hr.close _,?_⟩;have jI:cw X (.c t 0) (one (s.slot t)) (a.tmps.getD t aW):=jI;rw[hs] at jI;exact jI
   obtain⟨Y,hw,dO,gy,hβ,fb,de⟩:=key;obtain⟨Z,vs,C4,iu,Cv,hβ2,lB,hlen,wo,Cl,dK⟩:=zxh hE r Y _ s' l1 (j0+1) fb h1;refine⟨Z,a.tmps.getD t aW::vs,C4.trans hw,dO.trans iu,gy.trans Cv,hβ2.trans hβ,lB,by simp [hlen],λj sv v hl hv=> ?_,?_,?_⟩
   ·cases j with
    |zero=>simp only[bU,aC] at hl hv;subst hl hv;exact de.Hd Cv iu hβ2 na
    |succ j=>simp only[bI] at hl hv;rw[show j0+(j+1)=j0+1+j by omega];exact wo j sv v hl hv
   ·simp only[List.any_cons,na,Cl,Bool.or_self]
   ·rw[hw] at dK;simp only[List.mapM_cons,ay,aG,aj,dK]
 | .cell p T::r,X,s,s',l,j0,hr,h=>by
   simp only[pZ] at h;split at h
   case h_2=>cases h
   rename_i id tt t qM hT;split at h
   case h_2=>cases h
   rename_i B hB;split at h
   case isFalse=>cases h
   rename_i heq;rw[ap] at heq;have nm:tt.fG=false:=by simpa using heq.2
   have hte:=Ty.cT heq.1;have hnB:B.t.fG=false:=hte▸hE.rB hT;split at h
   case h_2=>cases h
   rename_i l1 s1 h1;cases h;have hb:=yV hB;obtain⟨r0,hβ,B8⟩:=hr.boxes id B hb;obtain⟨cs,T',cJ,de,how,gD⟩:=B8.cells hnB;have nr:=hr.slot p;rw[qM] at nr;obtain⟨r1,hβ1,hvp⟩:cw X (.c p 0) (.ptr id tt []) (a.tmps.getD p aW):=nr;obtain⟨hv,_⟩:=(yU nm).1 hvp;rw[hβ] at hβ1;cases hβ1;have mP:Rel tq X (s.cG (some (id,{B with own:=[]}))) a:=hr.vf hb hβ ⟨how,mA.of hnB cJ de vu⟩ (.inl (TT hnB));have KV:∀q,¬lv (s.cG (some (id,{B with own:=[]}))) (.b id ([]++q)):=by rintro q ⟨B2,ll,hp⟩;rw[Vr hb] at ll;cases ll;cases hp
   have vm:=zsq (X:=X) (q:= .r j0) KV;have N8:cw (X.p9 id [] (.r j0)) (.r j0) (.bY B.t B.x B.own) (mW B.t cs.toList):=by refine⟨cs.toList,de.bE (λ_ _=>vm.cn.1),rfl,λq hq=> ?_⟩;obtain⟨e,t',xs,v,g0,g1,g2,g3⟩:=gD q hq;exact⟨e,t',xs,v,g0,g1,g2,fa.yQ (p:=[]) g3⟩
   obtain⟨Z,vs,C4,iu,Cv,hβ2,lB,hlen,wo,Cl,dK⟩:=zxh hE r (X.p9 id [] (.r j0)) _ s' l1 (j0+1) (mP.mod vm.mod) h1;refine⟨Z,mW B.t cs.toList::vs,C4,vm.ext.trans iu,acP.trans Cv,hβ2,lB,by simp [hlen],λj sv v hl hv=> ?_,?_,?_⟩
   ·cases j with
    |zero=>simp only[bU,aC] at hl hv;subst hl hv;exact N8.Hd Cv iu hβ2 rfl
    |succ j=>simp only[bI] at hl hv;rw[show j0+(j+1)=j0+1+j by omega];exact wo j sv v hl hv
   ·simpa [SV.gi] using Cl
   ·have hl:=Hj (P:=P) hE (hte▸hT:E.ty T=some B.t) de (ad:=⟨r0,0,none⟩) (w:=X.w) (λi v hi=>by rw[q7,Nat.zero_add];simp only[bT,cJ];simpa using hi)
    have hw3:(X.p9 id [] (.r j0)).w=X.w:=rfl;rw[hw3] at dK;have rL:a.tmps.getD p aW= .pointer (some ⟨r0,0,none⟩):=by simpa [Ty.off] using hv
    have ha:(asAddr (.pointer (some ⟨r0,0,none⟩))).run P X.w= .ok ⟨r0,0,none⟩ X.w:=by simp [asAddr]
    simp only[List.mapM_cons,ay,aG,aj,dK,rL,ha,hl]
def cc.zero(X:cc)(id:Nat):cc:=
 {X with ow:=λg=>match X.ow g with
  | .box dX=>if dX=id then .box 0 else .box dX
  | .row (.b dX p) n=>if dX=id then .row (.b 0 p) n else .row (.b dX p) n
  |w=>w}
theorem Lh{id:Nat}{ad:Addr}{v:Value}(h:X.cn ad v):(X.zero id).cn ad v:=by
 refine⟨h.1,h.2.1,?_⟩;have:=h.2.2;simp only[cc.zero];cases hx:X.ow ad.block with
 |box i=>rw[hx] at this;exact this.elim
 |row pl n=>
  rw[hx] at this;cases pl with
  |b i p=>simp only;split<;>exact this
  |_=>exact this
 |_=>rw[hx] at this;exact this
theorem ajV{id:Nat}:Ext X (X.zero id) where
 cn:=λ_ _=>Lh
 size:=aZ _
 os:=rfl
 tape:=rfl
 output:=rfl
 β0:=rfl
 still:=λg _ gy=>by
  refine⟨?_,rfl⟩;simp only[cc.zero];cases hx:X.ow g with
  |box i=>rw[hx] at gy;exact gy.elim
  |row pl n=>rw[hx] at gy;exact gy.elim
  |_=>rfl
theorem fq.zero{id r:Nat}{B:fp}(h:fq X id r B):fq (X.zero id) 0 r B:=by
 obtain⟨h3,h1⟩:=h;refine⟨by simp [cc.zero,h3],h1.move (λ_ _=>Lh) rfl (λcs h4 p hp=> ?_) λ_ _ g o _ ho hw=>⟨ho,by simp [cc.zero,hw]⟩⟩;obtain⟨e,t',xs,v,g0,g1,g2,g3⟩:=h4 p hp;refine⟨e,t',xs,v,g0,g1,g2,?_⟩;rcases g3 with ho|⟨g,cap,cur,k1,k2,k3,k4,k5,k6⟩
 ·exact .inl ho
 ·exact .inr ⟨g,cap,cur,k1,k2,k3,k4,k5,by simp [cc.zero,k6]⟩
theorem cw.zero{id j r0:Nat}{sv:SV}{v:Value}(hp:∀dX t p,sv= .ptr dX t p->X.β dX=some r0)(hn:sv.gi=false)(h:cw X (.r j) sv v):cw {X.zero id with β:=λ_=>some r0} (.r j) (sv.pD 0) v:=by
 cases sv with
 |undef=>trivial
 |skip=>exact h
 |jR=>exact h
 |nE=>exact h
 |over=>exact h
 |bY t x own=>
  obtain⟨cs,h1,h2,h3⟩:=h;refine⟨cs,eI.bE (Y:={X.zero id with β:=λ_=>some r0}) (λad v hs=>(Lh hs:(X.zero id).cn ad v)) h1,h2,λp hp=> ?_⟩;obtain⟨e,t',xs,v,g0,g1,g2,g3⟩:=h3 p hp;refine⟨e,t',xs,v,g0,g1,g2,?_⟩;rcases g3 with ho|⟨g,cap,cur,k1,k2,k3,k4,k5,k6⟩
  ·exact .inl ho
  ·exact .inr ⟨g,cap,cur,k1,k2,k3,k4,k5,by simp [cc.zero,k6]⟩
 |ptr dX t p=>obtain⟨r,h1,h2⟩:=h;have:=hp dX t p rfl;rw[h1] at this;cases this;exact⟨r0,rfl,h2⟩
 |view t x=>obtain⟨ad,cs,h1,h2,h3,h4⟩:=h;exact⟨ad,cs,h1,h2,eI.bE (Y:={X.zero id with β:=λ_=>some r0}) (λad v hs=>(Lh hs:(X.zero id).cn ad v)) h3,λi u hi=>(Lh (h4 i u hi):(X.zero id).cn _ _)⟩
 |cap f t x u y=>exact AA (Y:={X.zero id with β:=λ_=>some r0}) (λad v hs=>(Lh hs:(X.zero id).cn ad v)) h
 |fc dX a b k=>cases hn
theorem cw.anyβ{j r0:Nat}{sv:SV}{v:Value}(hp:∀dX t p,sv≠ .ptr dX t p)(hn:sv.gi=false)(h:cw X (.r j) sv v):cw {X with β:=λ_=>some r0} (.r j) sv v:=by
 cases sv with
 |undef=>trivial
 |skip=>exact h
 |jR=>exact h
 |nE=>exact h
 |over=>exact h
 |bY t x own=>obtain⟨cs,h1,h2,h3⟩:=h;exact⟨cs,eI.bE (X:=X) (Y:={X with β:=λ_=>some r0}) (λad v (hs:X.cn ad v)=>(hs:({X with β:=λ_=>some r0}:cc).cn ad v)) h1,h2,h3⟩
 |ptr dX t p=>exact absurd rfl (hp dX t p)
 |view t x=>obtain⟨ad,cs,h1,h2,h3,h4⟩:=h;exact⟨ad,cs,h1,h2,eI.bE (X:=X) (Y:={X with β:=λ_=>some r0}) (λad v (hs:X.cn ad v)=>(hs:({X with β:=λ_=>some r0}:cc).cn ad v)) h3,h4⟩
 |cap f t x u y=>exact AA (X:=X) (Y:={X with β:=λ_=>some r0}) (λad v (hs:X.cn ad v)=>(hs:({X with β:=λ_=>some r0}:cc).cn ad v)) h
 |fc dX a b k=>cases hn
theorem VY:∀{l:List SV} {id:Nat} {t:Ty} {p:List Nat},SV.ptr id t p∈l->id∈HI l
 |v::r,id,t,p,h=>by
  rcases aD.1 h with e|h
  ·subst e;simp [HI]
  ·have:=VY h;cases v<;>simp [HI,this]
theorem zxg{l:List SV}{vs:List Value}(hlen:vs.length=l.length)(h:∀(j:Nat) sv v,l[j]? =some sv->vs[j]? =some v->cw X (.r j) sv v):kC X .r l (if h:vs.toArray.size=1 then vs.toArray[0] else .tuple vs.toArray):=by
 match l,vs,hlen with
 | [sv],[v],_=>exact h 0 sv v rfl rfl
 | [],[],_=>exact⟨#[],rfl,rfl,λj s u hs=>by simp at hs⟩
 |x::y::r,u::v::w,hlen=>refine⟨(u::v::w).toArray,by simp,by simpa using hlen,λj s z hs hz=>h j s z hs (by simpa using hz)⟩
theorem ab8{Z:cc}{s':State}{b:ae fp}{l' r:List SV}{b':ae fp}{vs:List Value}(hX:Ext X Z)(lB:Rel tq Z s' a)(hlen:vs.length=l'.length)(rj:∀(j:Nat) sv v,l'[j]? =some sv->vs[j]? =some v->cw Z (.r j) sv v)
 (na:l'.any SV.gi=false) (nQ:LN s' b l' (λr b=>some (r,b))=some (r,b')):∃Y',Y'.w=Z.w/\Ext X Y'/\FC X Y' b r b' (if h:vs.toArray.size=1 then vs.toArray[0] else .tuple vs.toArray):=by
 unfold LN at nQ;cases b with
 |some B=>
  cases hp:HI l' with
  |cons _ _=>rw[hp] at nQ;cases nQ
  |nil=>
   rw[hp] at nQ;have vn:∀id t p,SV.ptr id t p∉l':=λid t p hm=>by have:=VY hm;rw[hp] at this;cases this
   cases nw:s'.box 0 with
   |none=>simp only[nw] at nQ;cases nQ
   |some B'=>simp only[nw] at nQ;cases nQ;obtain⟨r0,h3,h4⟩:=lB.boxes 0 B' (yV nw);refine⟨Z,rfl,hX,r0,zxg hlen λj sv v h1 h2=>(rj j sv v h1 h2).anyβ (λid t p e=>vn id t p (e▸aL h1)) (by simpa using cH.1 na sv (aL h1)),λB2 ll=> ?_,λ_=>vn,na⟩;cases ll;exact⟨h4,λ_=>by rw[<-hX.β0];exact h3⟩
 |none=>
  cases hp:HI l' with
  |nil=>
   rw[hp] at nQ;have vn:∀id t p,SV.ptr id t p∉l':=λid t p hm=>by have:=VY hm;rw[hp] at this;cases this
   cases nQ;exact⟨Z,rfl,hX,0,zxg hlen λj sv v h1 h2=>(rj j sv v h1 h2).anyβ (λid t p e=>vn id t p (e▸aL h1)) (by simpa using cH.1 na sv (aL h1)),(λB2 ll=>by cases ll),λ_=>vn,na⟩
  |cons id rest=>
   rw[hp] at nQ;cases rest with
   |cons _ _=>cases nQ
   |nil=>
    cases hB:s'.box id with
    |none=>simp only[hB] at nQ;cases nQ
    |some B=>
     simp only[hB] at nQ;cases nQ;obtain⟨r0,h3,h4⟩:=lB.boxes id B (yV hB);refine⟨Z.zero id,rfl,hX.trans ajV,r0,?_,λB2 ll=> ?_,λhh=> ?_,zzn na⟩
     ·refine zxg (by simpa using hlen) λj sv v h1 h2=> ?_;rw[aP] at h1;obtain⟨s0,n5,rfl⟩:=ax.1 h1;refine(rj j s0 v n5 h2).zero (λdX t p e=> ?_) (by simpa using cH.1 na s0 (aL n5));have:=VY (e▸aL n5);rw[hp] at this;simp only[cL] at this;subst this;exact h3
     ·cases ll;exact⟨h4.zero,λhh=>by cases hh⟩
     ·rcases hh with hh|hh<;>cases hh
theorem VH:∀(ts:List Ty) (l:List SV),(dk ts l).length=l.length
 | [],l=>by simp [dk]
 |t::r,[]=>by simp [dk]
 |t::r,v::q=>by cases t<;>cases v<;>simp [dk,VH r q]
theorem zzc{X:cc}:∀(ts:List Ty) (l:List SV) (i:Nat) (sv:SV) (v:Value),(dk ts l)[i]? =some sv->(∀sv,l[i]? =some sv->∃pl,cw X pl sv v)->∀q,(∃E4,l[i]? =some E4/\(sv=E4\/sv=E4.shut\/E4= .jR))/\((∀E4,l[i]? =some E4->cw X q E4 v)->cw X q sv v)
 | [],l,i,sv,v,h,_,q=>by
   have h:l[i]? =some sv:=by simpa [dk] using h
   exact⟨⟨sv,h,.inl rfl⟩,λhh=>hh sv h⟩
 |t::r,[],i,sv,v,h,_,q=>by simp [dk] at h
 |t::r,x::y,i,sv,v,h,hx,q=>by
  cases i with
  |zero=>
   have key:(dk (t::r) (x::y))[0]? =some sv->(sv=x.shut)\/(x= .jR/\∃e u,sv= .bY (.sl e u) ([]:List (El u)) []):=by intro h;cases t<;>cases x<;>simp only[dk,bU,aC] at h<;>first|exact .inl h.symm|exact .inr ⟨rfl,_,_,h.symm⟩
   rcases key h with rfl|⟨rfl,e,u,rfl⟩
   ·exact⟨⟨x,rfl,.inr (.inl rfl)⟩,λhh=>(hh x rfl).shut⟩
   ·refine⟨⟨_,rfl,.inr (.inr rfl)⟩,λhh=> ?_⟩;have:=hh _ rfl;exact⟨[.slice none 0 0],⟨none,0,rfl,aZ _,λj x hj=>by simp at hj⟩,this,vu⟩
  |succ i=>
   have h':(dk r y)[i]? =some sv:=by cases t<;>cases x<;>simpa [dk] using h
   have:=zzc r y i sv v h' (λsv hs=>hx sv (by simpa using hs)) q;simpa using this
theorem agm{ts:List Ty}{l:List SV}{id:Nat}{t:Ty}{p:List Nat}(h:SV.ptr id t p∈dk ts l):SV.ptr id t p∈l:=by
 induction ts generalizing l with
 |nil=>simpa [dk] using h
 |cons u r ih=>
  cases l with
  |nil=>simp [dk] at h
  |cons v q=>
   have key:SV.ptr id t p=v.shut\/SV.ptr id t p∈dk r q:=by cases u<;>cases v<;>simp [dk,SV.shut] at h⊢ <;>first|exact h|exact .inr h|skip
   rcases key with e|hm
   ·rw[VZ e.symm];simp
   ·exact aE _ (ih hm)
theorem agl{ts:List Ty}{l:List SV}{id j:Nat}{c d:Ty}(h:SV.fc id c d j∈dk ts l):SV.fc id c d j∈l:=by
 induction ts generalizing l with
 |nil=>simpa [dk] using h
 |cons u r ih=>
  cases l with
  |nil=>simp [dk] at h
  |cons v q=>
   have key:SV.fc id c d j=v.shut\/SV.fc id c d j∈dk r q:=by cases u<;>cases v<;>simp [dk,SV.shut] at h⊢ <;>first|exact h|exact .inr h|skip
   rcases key with e|hm
   ·have:=zok v;rw[<-e] at this;cases this
   ·exact aE _ (ih hm)
theorem alJ(hE:bO P E)(hm:P.follows .mixedOrders=true){C C0:bH}(hC0:C0.Nat)(hf0:∀f,ly P tq C0 f){f:FuncId}{fn:Func}{code:Code}(qY:P.funcs[f]? =some fn)(Cj:(fn.name== "runtime.NumGoroutine")=false)(yM:fn.body=some code)
 (hC:∀(l:List SV) (b:ae fp) (r:List SV) (b':ae fp),C (List SV×ae fp) f l b (λr b=>some (r,b))=some (r,b')->∃k,se E (C0 (List SV×ae fp)) k fn code l b (λr b=>some (r,b))=some (r,b')):ly P tq C f:=by
 intro l b r b' h;refine⟨⟨fn,code,qY,Cj,yM⟩,λX args ql=> ?_⟩;obtain⟨k,h⟩:=hC l b r b' h;unfold se at h;cases hg:(E.sp.isSome&&b.isSome) with
 |true=>rw[hg] at h;cases h
 |false=>
 rw[hg,cond_false] at h;have hF:Fr E X:=λfS=>ql.rows (by
  cases hE2:E.sp with
  |none=>exact absurd hE2 fS
  |some z=>
   cases b with
   |none=>rfl
   |some B=>rw[hE2] at hg;cases hg)
 simp only at h;obtain⟨⟨e,s⟩,h1,h2⟩:=sI (Dg hC0 code _ (λe s=>some (e,s)) (K:=λz=>match z.1 with
  | .exit _=>none
  |_=>match pZ E z.2 fn.results.toList with
   |some (l,s')=>LN s' b (pY E l) (λr b=>some (r,b))
   |none=>none) (λe s=>by cases e<;>rfl) _) h
 refine calls_of_wp qY yM ?_;have lL:=ql.size;refine JR hE hm hC0 hf0 k code X X _ _ e s hF (Ext.refl X) (?_:Rel tq X _ _) h1 _ λY a' dO fb=> ?_
 ·have na:=VH E.ps l;refine⟨by simp [lL,na],by simp [na],λi sl v hs hv=> ?_,λid B hB=> ?_,λi sl id t p hs hm=> ?_,rfl,λi sl id c d n hs hm=> ?_,ql.km⟩
  ·by_cases hi:i<l.length
   ·rw[bj (by simpa [na] using hi),aP] at hs;obtain⟨sv,sD,rfl⟩:=ax.1 hs;rw[Array.getElem?_append_left (by omega)] at hv;exact(zzc E.ps l i sv v sD (λsv h0=>⟨_,ql.rep i sv v h0 hv⟩) (.c i 0)).2 λE4 h0=>ql.rep i E4 v h0 hv
   ·rw[bc (by simp [na];omega),fm] at hs;split at hs
    ·cases hs;trivial
    ·cases hs
  ·cases id with
   |zero=>simp only[bU,aC] at hB;exact ql.box B hB
   |succ id=>simp only[bI,fm] at hB;split at hB<;>cases hB
  ·by_cases hi:i<l.length
   ·rw[bj (by simpa [na] using hi),aP] at hs;obtain⟨sv,sD,rfl⟩:=ax.1 hs;simp only[cL] at hm;subst hm;obtain⟨rfl,hb⟩:=ql.ptr id t p (agm (aL sD));cases b with
    |none=>cases hb
    |some B=>exact⟨B,rfl⟩
   ·rw[bc (by simp [na];omega),fm] at hs;split at hs
    ·cases hs;simp at hm
    ·cases hs
  ·exfalso;by_cases hi:i<l.length
   ·rw[bj (by simpa [na] using hi),aP] at hs;obtain⟨sv,sD,rfl⟩:=ax.1 hs;simp only[cL] at hm;subst hm;exact zsa ql.xK (agl (aL sD))
   ·rw[bc (by simp [na];omega),fm] at hs;split at hs
    ·cases hs;simp at hm
    ·cases hs
 ·
  have aaC:∃l s',pZ E s fn.results.toList=some (l,s')/\LN s' b (pY E l) (λr b=>some (r,b))=some (r,b')/\(e= .normal\/e= .ret):=by
   cases e with
   |exit id=>cases h2
   |normal=>
    simp only at h2;split at h2
    ·exact⟨_,_,by assumption,h2,.inl rfl⟩
    ·cases h2
   |ret=>
    simp only at h2;split at h2
    ·exact⟨_,_,by assumption,h2,.inr rfl⟩
    ·cases h2
  obtain⟨l',s',mP,nQ,he⟩:=aaC;obtain⟨Z,vs,hw,iu,gy,hβ,lB,hlen,wo,aau,dK⟩:=zxh hE fn.results.toList Y s s' l' 0 fb mP;have GQ:(results fn a'.tmps).run P Y.w= .ok (if h:vs.toArray.size=1 then vs.toArray[0] else .tuple vs.toArray) Y.w:=by unfold results;simp only[Array.mapM_eq_mapM_toList,ay,Sem.run_map,aG,aj];exact congrArg (λr:Result (List Value)=>(r.andThen λa w'=>Result.ok a.toArray w').andThen λa w'=>Result.ok (if h:a.size=1 then a[0] else Value.tuple a) w') dK
  have hX:Ext X Z:=dO.trans iu;have rj:∀(j:Nat) sv v,l'[j]? =some sv->vs[j]? =some v->cw Z (.r j) sv v:=λj sv v h1 h2=>by
   have:=wo j sv v h1 h2
   rwa [Nat.zero_add] at this
  have NP:vs.length=(pY E l').length:=by unfold pY;cases E.ro<;>simpa using hlen
  have IB:∀(j:Nat) sv v,(pY E l')[j]? =some sv->vs[j]? =some v->cw Z (.r j) sv v:=λj sv v h1 h2=>by
   unfold pY at h1;cases hro:E.ro with
   |false=>rw[hro] at h1;exact rj j sv v h1 h2
   |true=>rw[hro,cond_true,aP] at h1;obtain⟨s0,n5,rfl⟩:=ax.1 h1;exact cw.oI (rj j s0 v n5 h2)
  have Cl:(pY E l').any SV.gi=false:=by
   unfold pY;cases E.ro with
   |false=>exact aau
   |true=>exact zhj l'
  have fin:=ab8 (b:=b) hX lB NP IB Cl nQ;obtain⟨Y',US,hX',hL⟩:=fin;have US:=US.trans hw;rcases he with rfl|rfl
  ·exact⟨fb.defers,_,GQ,Y',US,hX',hL⟩
  ·exact⟨fb.defers,_,GQ,Y',US,hX',hL⟩
end Go.Ref

namespace Go.Ref
open Go
variable {P:Program} {E:Env}
def Wf:(t:Ty)->El t->Prop
 | .bool,_=>True
 | .int k,n=>(Lit.int k n).wf=true
 | .str,s=>s.size<=maxLen
 | .sl _ t,xs=>ag xs<=maxLen/\∀x∈(xs:List (El t)),Wf t x
 | .arr n t,xs=>ag xs=n/\∀x∈(xs:List (El t)),Wf t x
 | .unit,_=>True
 | .pair a b,x=>Wf a x.1/\Wf b x.2
 | .dJ _ _ _,_=>False
theorem La(hE:bO P E){T:TypeId}{t:Ty}(ht:E.ty T=some t):P.cellsOf T=t.cells:=by obtain⟨i,h1,h2,_⟩:=(hE.ty T t ht).info;simp [Program.cellsOf,h1,h2]
def Ty.pE:Ty->Bool
 | .sl _ t=> !(ak t.cells 0)&&t.pE
 | .arr _ t=>t.pE
 | .pair a b=>a.pE&&b.pE
 |_=>true
def A6(w:World)(β:Nat->ae Nat):cc:=⟨w,λ_=> .all,β⟩
theorem ago{w:World}{β:Nat->ae Nat}{a:Addr}{v:Value}(h:w.cell? a=some v):(A6 w β).cn a v:=⟨World.cell?_spot h,h,trivial⟩
theorem zma{α:Type}{n:Nat}{p:Nat->α->Prop}(h:∀i,i<n->∃x,p i x):∃xs:List α,xs.length=n/\∀(i:Nat) x,xs[i]? =some x->p i x:=by
 induction n with
 |zero=>exact⟨[],rfl,λi x hi=>by simp at hi⟩
 |succ n ih=>
  obtain⟨xs,h1,h2⟩:=ih λi hi=>h i (by omega);obtain⟨y,hy⟩:=h n (by omega);refine⟨xs++ [y],by simp [h1],λi x hi=> ?_⟩;rw[List.getElem?_append] at hi;split at hi
  ·exact h2 i x hi
  ·rename_i bR;have Is:i-xs.length=0:=by have:=(aA.1 hi).1;simp at this;omega
   rw[Is] at hi;simp only[bU,aC] at hi;subst hi;have:i=n:=by omega
   subst this;exact hy
section
variable {H:Type} {enc:TypeId×Value->H} {w:World} {base:Nat} {spare:Nat->Bool} {held:Bool} {β:Nat->ae Nat}
theorem alU(hE:bO P E):∀t:Ty,
 (∀(T:TypeId) (iT:Nat) (cs:List Value) (x:DataW H×List MemPlace),E.ty T=some t->t.pE=true->fx enc P w base spare held iT T cs=some x->∃y:El t,eI (A6 w β) t y cs/\Wf t y)/\
 (∀(fl:List Field) (off iT:Nat) (cs:List Value),rW E fl t off->t.pE=true->off+t.cells<=cs.length->(∀f∈fl,∃x,fx enc P w base spare held iT f.type ((cs.drop f.offset).take (P.cellsOf f.type))=some x)->
   ∃y:El t,eI (A6 w β) t y ((cs.drop off).take t.cells)/\Wf t y):=by
 intro t;have uw:∀{t:Ty},t.lT=false->t≠ .unit->∀(fl:List Field) (off:Nat),¬rW E fl t off:=by intro t h1 h2 fl off h;cases t<;>cases fl<;>simp_all [rW,Ty.lT]
 induction t with
 |dJ k a b _ _=>exact⟨λT iT cs x hT po h=>absurd (hE.rB hT) (by simp [Ty.fG]),λfl off iT cs hf=>absurd hf (uw rfl (by simp) fl off)⟩
 |bool=>
  refine⟨λT iT cs x hT po h=> ?_,λfl off iT cs hf=>absurd hf (uw rfl (by simp) fl off)⟩;have hu:=(hE.ty T _ hT).me;cases iT with
  |zero=>simp [fx] at h
  |succ m=>
   unfold fx at h;rw[hu] at h;split at h<;>try(first|cases h;done|(simp_all;done))
   rename_i b _;exact⟨b,rfl,trivial⟩
 |int k=>
  refine⟨λT iT cs x hT po h=> ?_,λfl off iT cs hf=>absurd hf (uw rfl (by simp) fl off)⟩;have hu:=(hE.ty T _ hT).me;cases iT with
  |zero=>simp [fx] at h
  |succ m=>unfold fx at h;rw[hu] at h;split at h<;>simp_all;rename_i k1 k2 n hk;subst hk;exact⟨n,rfl,h.1.2⟩
 |str=>
  refine⟨λT iT cs x hT po h=> ?_,λfl off iT cs hf=>absurd hf (uw rfl (by simp) fl off)⟩;have hu:=(hE.ty T _ hT).me;cases iT with
  |zero=>simp [fx] at h
  |succ m=>unfold fx at h;rw[hu] at h;split at h<;>simp_all;rename_i s;exact⟨s,rfl,h.1⟩
 |sl e t ih=>
  refine⟨λT iT cs x hT po h=> ?_,λfl off iT cs hf=>absurd hf (uw rfl (by simp) fl off)⟩;obtain⟨hu,he⟩:=(hE.ty T _ hT).me;have hc:=La hE he;rcases Go.Deep.open_slice hu h with⟨rfl,_⟩|⟨a,len,cap,m,n,D,Pl,rfl,hb,hl,hm,KU,_,oF⟩
  ·exact⟨[],⟨none,0,rfl,aZ _,λj x hj=>by simp at hj⟩,by simp [maxLen],λx hx=>by cases hx⟩
  ·have hlm:len<=m:=by rw[KU];split<;>omega
   have hk:0<t.cells/\t.pE=true:=by
    simp only[Ty.pE,ap,im] at po;refine⟨?_,po.2⟩;rcases Nat.eq_zero_or_pos t.cells with h0|h0
    ·rw[h0] at po;simp at po
    ·exact h0
   obtain⟨ys,h1,h2⟩:=zma (n:=len) (p:=λi (y:El t)=>∃nG,w.cells? base (a.add (i*t.cells)) t.cells=some nG/\eI (A6 w β) t y nG/\Wf t y) (λi hi=>by obtain⟨nG,g1,g2⟩:=oF i (by omega);rw[hc] at g1;obtain⟨y,k1,k2⟩:=ih.1 e n nG _ he hk.2 g2;exact⟨y,nG,g1,k1,k2⟩)
   refine⟨ys,eI.E3 h1 hl (λj y hj=> ?_),by show ys.length<=_;omega,λy hy=> ?_⟩
   ·obtain⟨nG,g1,g2,g3⟩:=h2 j y hj;obtain⟨_,hlen,mO⟩:=World.cells?_some g1;have hj0:=(aA.1 hj).1;obtain⟨c0,e1,_⟩:=h2 0 _ (av (by omega));obtain⟨_,anx,Ih⟩:=World.cells?_some e1;have GV:a.spot=none:=by have:=Ih 0 (by omega);rw[av (by omega)] at this;have h3:=World.cell?_spot this;simpa [Addr.add] using h3
    refine⟨a,nG,rfl,GV,g2,λi v hi=>ago ?_⟩;have hil:=(aA.1 hi).1;have:=mO i (by omega);rw[TJ a GV,hi] at this;exact this
   ·obtain⟨i,hi⟩:=cX.1 hy;obtain⟨nG,_,_,g3⟩:=h2 i y hi;exact g3
 |arr n t ih=>
  refine⟨λT iT cs x hT po h=> ?_,λfl off iT cs hf=>absurd hf (uw rfl (by simp) fl off)⟩;obtain⟨e,hu,he,_⟩:=(hE.ty T _ hT).me;have hc:=La hE he;have NC:=La hE hT;obtain⟨xs,m,rfl,_,hl,AU,oF⟩:=DataW.trod_array hu h;obtain⟨ys,h1,h2⟩:=zma (n:=n) (p:=λi (y:El t)=>eI (A6 w β) t y ((cs.drop (i*t.cells)).take t.cells)/\Wf t y) (λi hi=>by have g:=oF i hi;rw[hc,av (by omega)] at g;exact ih.1 e m _ _ he po g)
  refine⟨ys,⟨h1,by rw[hl,NC];rfl,λj y hj=>(h2 j y hj).1⟩,h1,λy hy=> ?_⟩;obtain⟨i,hi⟩:=cX.1 hy;exact(h2 i y hi).2
 |unit=>refine⟨λT iT cs x hT po h=> ?_,λfl off iT cs hf po hle kR=>⟨(),by simp [Ty.cells,eI],trivial⟩⟩;obtain⟨fs,hu,lQ,_⟩:=(hE.ty T _ hT).me;have NC:=La hE hT;obtain⟨xs,m,rfl,_,hl,_⟩:=DataW.trod_struct hu h;rw[NC] at hl;refine⟨(),?_,trivial⟩;exact List.eq_nil_of_length_eq_zero hl
 |pair ta tb uZ u6=>
  have step:∀(fl:List Field) (off iT:Nat) (cs:List Value),rW E fl (.pair ta tb) off->(Ty.pair ta tb).pE=true->off+(Ty.pair ta tb).cells<=cs.length->(∀f∈fl,∃x,fx enc P w base spare held iT f.type ((cs.drop f.offset).take (P.cellsOf f.type))=some x)->
   ∃y:El (.pair ta tb),eI (A6 w β) (.pair ta tb) y ((cs.drop off).take (Ty.pair ta tb).cells)/\Wf (.pair ta tb) y:=by
   intro fl off iT cs hf po hle kR;cases fl with
   |nil=>simp [rW] at hf
   |cons f fl=>obtain⟨f1,f2,f3,f4⟩:=hf;simp only[Ty.pE,ap] at po;simp only[Ty.cells] at hle;obtain⟨x,hx⟩:=kR f (by simp);rw[La hE f2,f1] at hx;obtain⟨y1,r1,w1⟩:=uZ.1 f.type iT _ x f2 po.1 hx;obtain⟨y2,r2,w2⟩:=u6.2 fl (off+ta.cells) iT cs f4 po.2 (by omega) (λg hg=>kR g (aE _ hg));refine⟨(y1,y2),⟨_,_,?_,r1,r2⟩,w1,w2⟩;simp only[Ty.cells];rw[<-List.drop_drop];exact List.take_add
  refine⟨λT iT cs x hT po h=> ?_,step⟩;obtain⟨fs,hu,lQ,_⟩:=(hE.ty T _ hT).me;have NC:=La hE hT;obtain⟨xs,m,rfl,_,hl,AU,oF⟩:=DataW.trod_struct hu h;rw[NC] at hl;obtain⟨y,r,wf⟩:=step fs.toList 0 m cs lQ po (by omega) (λf hf=>by
   obtain⟨i,hi⟩:=cX.1 hf;have Ez:fs[i]? =some f:=by simpa using hi
   have:=oF i f Ez;have bR:=(aA.1 hi).1;rw[av (by simp at bR;omega)] at this;exact⟨_,this⟩)
  refine⟨y,?_,wf⟩;rw[List.drop_zero,<-hl,List.take_length] at r;exact r
end
end Go.Ref

namespace Go.Ref
open Go
variable {P:Program} {E:Env}
def JE:Value->Value->Bool
 | .bool a,.bool b=>a==b
 | .int k a,.int j b=>decide (k=j)&&decide (a=b)
 | .string a,.string b=>ak a.size 0&&ak b.size 0
 | .slice none 0 0,.slice none 0 0=>true
 |_,_=>false
theorem zme{a:af}(h:a.size=0):a=⟨#[]⟩:=by
 cases a with
 |mk d=>have:d.size=0:=h;have:=Array.eq_empty_of_size_eq_zero this;rw[this]
theorem afx{a b:Value}(h:JE a b=true):a=b:=by
 unfold JE at h;split at h
 ·simp at h;rw[h]
 ·simp at h;rw[h.1,h.2]
 ·simp only[ap] at h;rw[zme (aH h.1),zme (aH h.2)]
 ·rfl
 ·cases h
def Lv:List Value->List Value->Bool
 | [],[]=>true
 |a::r,b::q=>JE a b&&Lv r q
 |_,_=>false
theorem Vp:∀{a b:List Value},Lv a b=true->a=b
 | [],[],_=>rfl
 |a::r,b::q,h=>by simp only[Lv,ap] at h;rw[afx h.1,Vp h.2]
def JL(t:Ty)(v:Value):Bool:=
 match v with
 | .agg cs=>t.agg&&Lv cs.toList (zo t)
 |v=> !t.agg&&Lv [v] (zo t)
theorem ag6{t:Ty}{v:Value}(h:JL t v=true):v=mW t (zo t):=by
 unfold JL at h;split at h
 ·simp only[ap] at h;rw[sw h.1,<-Vp h.2]
 ·simp only[ap,im] at h;rw[<-Vp h.2,TS h.1]
def Ad(E:Env):List Field->Ty->Nat->Bool
 | [],.unit,_=>true
 |f::r,.pair a b,off=>ak f.offset off&&((match E.ty f.type with
  |some t=>t.iS a
  |none=>false)&&(!(f.name== "_")&&Ad E r b (off+a.cells)))
 |_,_,_=>false
theorem zo7:∀{fl:List Field} {t:Ty} {off:Nat},Ad E fl t off=true->rW E fl t off
 | [],t,off,h=>by cases t<;>simp_all [Ad,rW]
 |f::r,t,off,h=>by
  cases t<;>simp only[Ad,ap] at h<;>try(cases h;done)
  obtain⟨h1,h2,h3,h4⟩:=h;refine⟨aH h1,?_,?_,zo7 h4⟩
  ·cases hf:E.ty f.type with
   |none=>rw[hf] at h2;cases h2
   |some u=>rw[hf] at h2;rw[Ty.cT h2]
  ·simpa using h3
def CN(E:Env)(T:TypeId)(t:Ty):Bool:=
 match E.ty T with
 |some u=>u.iS t
 |none=>false
theorem zxn{T:TypeId}{t:Ty}(h:CN E T t=true):E.ty T=some t:=by
 unfold CN at h;split at h
 ·rename_i u hu;rw[hu,Ty.cT h]
 ·cases h
def IY(P:Program)(E:Env)(T:TypeId)(t:Ty):Bool:=
 match P.underlying T,t with
 |some .bool,.bool=>true
 |some (.int k),.int j=>decide (k=j)
 |some .string,.str=>true
 |some (.slice e),.sl e' u=>ak e e'&&CN E e u
 |some (.array n e),.arr m u=>ak n m&&(CN E e u&& !P.eqGuardType P.depth T)
 |some (.struct fs),.unit=>Ad E fs.toList .unit 0&&(!P.stoodInHeld T&& !P.eqGuardType P.depth T)
 |some (.struct fs),.pair a b=>Ad E fs.toList (.pair a b) 0&&(!P.stoodInHeld T&& !P.eqGuardType P.depth T)
 |_,_=>false
theorem ajQ{T:TypeId}{t:Ty}(h:IY P E T t=true):R7 P E T t:=by
 unfold IY at h;split at h
 ·assumption
 ·rename_i k j hu;rw[<-of_decide_eq_true h];exact hu
 ·assumption
 ·rename_i e e' u hu;simp only[ap] at h;have:=aH h.1;subst this;exact⟨hu,zxn h.2⟩
 ·rename_i n e m u hu;simp only[ap] at h;have:=aH h.1;subst this;exact⟨e,hu,zxn h.2.1,by simpa using h.2.2⟩
 ·rename_i fs hu;simp only[ap,im] at h;exact⟨fs,hu,zo7 h.1,h.2.1,h.2.2⟩
 ·rename_i fs a b hu;simp only[ap,im] at h;exact⟨fs,hu,zo7 h.1,h.2.1,h.2.2⟩
 ·cases h
def G1(P:Program)(E:Env)(T:TypeId)(t:Ty):Bool:=
 match P.info? T with
 |some i=>ak i.size t.cells&&(ak i.bytes (E.bytes T)&&match i.zero with
  |some v=>JL t v
  |none=>false)
 |none=>false
def H7(P:Program)(E:Env)(T:TypeId):Bool:=
 match E.ty T with
 |some t=>G1 P E T t&&IY P E T t
 |none=>true
theorem aiT{T:TypeId}{t:Ty}(h:H7 P E T=true)(ht:E.ty T=some t):uN P E T t:=by
 unfold H7 at h;rw[ht] at h;simp only[ap] at h;refine⟨?_,ajQ h.2⟩;have h1:=h.1;unfold G1 at h1;split at h1
 ·rename_i i hi;simp only[ap] at h1;obtain⟨g1,g2,g3⟩:=h1;split at g3
  ·rename_i v hv;exact⟨i,hi,aH g1,aH g2,by rw[hv,ag6 g3]⟩
  ·cases g3
 ·cases h1
def U2(P:Program)(T:TypeId):Bool:=
 match P.underlying T,P.info? T with
 |some (.pointer _),some i=>ak i.size 1
 |_,_=>false
structure zO where
 K1:List (ae Ty)
 bts:List Nat
 G9:List Bool
 UZ:List (TypeId×TypeId×TypeId):=[]
def EX:List (TypeId×TypeId×TypeId)->TypeId->ae (TypeId×TypeId)
 | [],_=>none
 |q::r,T=>bif ak q.1 T then some q.2 else EX r T
def mpB(P:Program)(q:TypeId×TypeId×TypeId):Bool:=
 match P.underlying q.1 with
 |some (.map k e)=>ak k q.2.1&&ak e q.2.2
 |_=>false
theorem Rl{P:Program}:∀{l:List (TypeId×TypeId×TypeId)},l.all (mpB P)=true->∀{T k e:TypeId},EX l T=some (k,e)->P.underlying T=some (.map k e)
 |q::r,hl,T,k,e,h=>by
  simp only[List.all_cons,ap] at hl;unfold EX at h;cases hq:ak q.1 T with
  |false=>rw[hq] at h;exact Rl hl.2 h
  |true=>
   rw[hq] at h;have:=aH hq;subst this;have h1:=hl.1;unfold mpB at h1;split at h1
   ·rename_i k' e' hu;simp only[ap] at h1;have a1:=aH h1.1;have a2:=aH h1.2;rw[hu,a1,a2];have h:some q.2=some (k,e):=h;injection h with h
    rw[h]
   ·cases h1
def zO.env(t:zO)(lV rM:Nat->List Nat)(outs:List Nat)(ps:List Ty):Env:=⟨λT=>t.K1.getD T none,λT=>t.bts.getD T 0,λT=>t.G9.getD T false,lV,rM,outs,ps,EX t.UZ,λ_=>none,λ_=>none,λ_=>[],[],false,[],λ_=>[],λ_=>none,λ_=>none,λ_=>false,none,none⟩
def zO.Ep(t:zO):Env:=t.env (λ_=>[]) (λ_=>[]) [] []
def zO.ok(P:Program)(t:zO):Bool:=(List.range t.K1.length).all (H7 P t.Ep)&&((List.range t.G9.length).all (λT=> !t.G9.getD T false||U2 P T)&&t.UZ.all (mpB P))
theorem A0{E':Env}(h1:E.ty=E'.ty)(h2:E.bytes=E'.bytes){T:TypeId}{t:Ty}(h:uN P E T t):uN P E' T t:=by
 have lQ:∀(fl:List Field) (t:Ty) (off:Nat),rW E fl t off->rW E' fl t off:=by
  intro fl
  induction fl with
  |nil=>intro t off h;cases t<;>simp_all [rW]
  |cons f r ih=>
   intro t off h;cases t<;>simp only[rW] at h⊢ <;>try exact h
   exact⟨h.1,by rw[<-h1];exact h.2.1,h.2.2.1,ih _ _ h.2.2.2⟩
 refine⟨by rw[<-h2];exact h.info,?_⟩;have hu:=h.me;cases t with
 |bool=>exact hu
 |int k=>exact hu
 |str=>exact hu
 |sl e u=>exact⟨hu.1,by rw[<-h1];exact hu.2⟩
 |arr n u=>obtain⟨e,g1,g2⟩:=hu;exact⟨e,g1,by rw[<-h1];exact g2⟩
 |unit=>obtain⟨fs,g1,g2,g3⟩:=hu;exact⟨fs,g1,lQ _ _ _ g2,g3⟩
 |pair a b=>obtain⟨fs,g1,g2,g3⟩:=hu;exact⟨fs,g1,lQ _ _ _ g2,g3⟩
 |dJ k a b=>exact hu.elim
theorem bO.join(h:bO P E)(j:Nat->ae (List Nat)):bO P {E with join:=j}:=
 ⟨λT u hT=>A0 (E:=E) (E':={E with join:=j}) rfl rfl (h.ty T u hT),h.pt,h.p1,h.mp,h.bl,h.gr,h.gz,h.g3,h.ga⟩
theorem bO.fz(h:bO P E)(j:Nat->ae (Nat×TypeId)):bO P {E with fz:=j}:=
 ⟨λT u hT=>A0 (E:=E) (E':={E with fz:=j}) rfl rfl (h.ty T u hT),h.pt,h.p1,h.mp,h.bl,h.gr,h.gz,h.g3,h.ga⟩
theorem bO.dr(h:bO P E)(j:Nat->List Nat):bO P {E with dr:=j}:=
 ⟨λT u hT=>A0 (E:=E) (E':={E with dr:=j}) rfl rfl (h.ty T u hT),h.pt,h.p1,h.mp,h.bl,h.gr,h.gz,h.g3,h.ga⟩
theorem bO.sh(h:bO P E)(j:List Nat):bO P {E with sh:=j}:=
 ⟨λT u hT=>A0 (E:=E) (E':={E with sh:=j}) rfl rfl (h.ty T u hT),h.pt,h.p1,h.mp,h.bl,h.gr,h.gz,h.g3,h.ga⟩
theorem bO.mv(h:bO P E)(j:List Nat):bO P {E with mv:=j}:=
 ⟨λT u hT=>A0 (E:=E) (E':={E with mv:=j}) rfl rfl (h.ty T u hT),h.pt,h.p1,h.mp,h.bl,h.gr,h.gz,h.g3,h.ga⟩
theorem bO.fr(h:bO P E)(j:Nat->List Nat):bO P {E with fr:=j}:=
 ⟨λT u hT=>A0 (E:=E) (E':={E with fr:=j}) rfl rfl (h.ty T u hT),h.pt,h.p1,h.mp,h.bl,h.gr,h.gz,h.g3,h.ga⟩
def blB(P:Program)(T:TypeId):Bool:=
 match P.info? T with
 |some i=>match i.zero with
  |some (.agg a)=>match a.toList with
   | [.pointer none,.slice none 0 0]=>true
   |_=>false
  |_=>false
 |none=>false
theorem bO.sd(h:bO P E)(T e:TypeId)(hT:blB P T=true):bO P {E with bl:=λt=>bif ak t T then some e else none}:=
 ⟨λT' u hT=>A0 (E:=E) (E':={E with bl:=λt=>bif ak t T then some e else none}) rfl rfl (h.ty T' u hT),h.pt,h.p1,h.mp,λT' e' he=>by
   have he:(bif ak T' T then some e else none)=some e':=he;cases hb:ak T' T with
   |false=>rw[hb] at he;cases he
   |true=>
    have:=aH hb;subst this;unfold blB at hT;split at hT
    case h_2=>cases hT
    rename_i i hi;split at hT
    case h_2=>cases hT
    rename_i a ha;split at hT
    case h_2=>cases hT
    rename_i hl;exact⟨i,hi,by rw[ha];congr 1;congr 1;apply Array.ext';rw[hl]⟩,h.gr,h.gz,h.g3,h.ga⟩
def grB(P:Program)(T:TypeId)(a:Ty):Bool:=
 match P.underlying T with
 |some (.struct fs)=>[0,1,2].all λj=>match fs[j]? with
  |some f=>ak f.offset (vU a [j])&&match P.info? f.type with
   |some i=> !(ak i.size 0)
   |none=>false
  |none=>false
 |_=>false
def gaB(P:Program)(T:TypeId):Bool:=
 match P.underlying T with
 |some (.array 2 e)=>match P.info? e with
  |some i=>ak i.size 1
  |none=>false
 |_=>false
theorem ang{T:TypeId}{a:Ty}(h:grB P T a=true):∃fs,P.underlying T=some (.struct fs)/\∀j,j<=2->∃f i,fs[j]? =some f/\f.offset=vU a [j]/\P.info? f.type=some i/\i.size≠0:=by
 unfold grB at h;split at h
 case h_2=>cases h
 rename_i fs hu;refine⟨fs,hu,λj hj=> ?_⟩;have:=aR.1 h j (by match j,hj with|0,_=>simp|1,_=>simp|2,_=>simp);split at this
 case h_2=>cases this
 rename_i f hf;rw[ap] at this;obtain⟨h1,h2⟩:=this;split at h2
 case h_2=>cases h2
 rename_i i hi;exact⟨f,i,hf,aH h1,hi,λe=>by rw[e] at h2;simp at h2⟩
theorem anf{T:TypeId}(h:gaB P T=true):∃e i,P.underlying T=some (.array 2 e)/\P.info? e=some i/\i.size=1:=by
 unfold gaB at h;split at h
 case h_2=>cases h
 rename_i e hu;split at h
 case h_2=>cases h
 rename_i i hi;exact⟨e,i,hu,hi,aH h⟩
def gzB(P:Program)(T:TypeId)(a:Ty):Bool:=
 match P.info? T with
 |some i=>match i.zero with
  |some (.agg cs)=>Lv (cs.toList.take a.cells) (zo a)&&(match cs.toList.drop a.cells with
   | [.pointer none,.pointer none,.int .i64 n]=>decide (n=0)
   |_=>false)
  |_=>false
 |none=>false
theorem anh{T:TypeId}{a:Ty}(h:gzB P T a=true):∃i,P.info? T=some i/\i.zero=some (.agg (zo a++ [Value.pointer none,Value.pointer none,Value.int .i64 0]).toArray):=by
 unfold gzB at h;split at h
 case h_2=>cases h
 rename_i i hi;split at h
 case h_2=>cases h
 rename_i cs nB;rw[ap] at h;obtain⟨h1,h2⟩:=h;split at h2
 case h_2=>cases h2
 rename_i n hd;have:=of_decide_eq_true h2;subst this;refine⟨i,hi,?_⟩;rw[nB,<-Vp h1,<-hd,List.take_append_drop]
def g3B(P:Program)(E:Env)(T:TypeId)(a:Ty):Bool:=
 match P.underlying T with
 |some (.struct fs)=>(match fs.toList with
  |f::_=>ak f.offset 0&&CN E f.type a
  | []=>false)&&fs.toList.all λf=>(P.info? f.type).isSome
 |_=>false
theorem ane{T:TypeId}{a:Ty}(h:g3B P E T a=true):∃fs f,P.underlying T=some (.struct fs)/\fs[0]? =some f/\f.offset=0/\E.ty f.type=some a/\∀f∈fs.toList,∃i,P.info? f.type=some i:=by
 unfold g3B at h;split at h
 case h_2=>cases h
 rename_i fs hu;rw[ap] at h;obtain⟨h1,h2⟩:=h;split at h1
 case h_2=>cases h1
 rename_i f r hl;rw[ap] at h1;refine⟨fs,f,hu,by rw[<-Array.getElem?_toList,hl];rfl,aH h1.1,zxn h1.2,λg hg=> ?_⟩;exact Option.isSome_iff_exists.1 (aR.1 h2 g hg)
theorem bO.lh(h:bO P E)(T A:TypeId)(a b:Ty)(hT:grB P T a=true)(hZ:gzB P T a=true)(h3:g3B P E T a=true)(hA:gaB P A=true):bO P {E with gr:=λt=>bif ak t T then some (a,b) else none,ga:=λt=>ak t A}:=
 ⟨λT' u C1=>A0 (E:=E) (E':={E with gr:=λt=>bif ak t T then some (a,b) else none,ga:=λt=>ak t A}) rfl rfl (h.ty T' u C1),h.pt,h.p1,h.mp,h.bl,λT' a' b' he=>by
   have he:(bif ak T' T then some (a,b) else none)=some (a',b'):=he;cases hb:ak T' T with
   |false=>rw[hb] at he;cases he
   |true=>have:=aH hb;subst this;rw[hb] at he;cases he;exact ang hT,λT' a' b' he=>by
   have he:(bif ak T' T then some (a,b) else none)=some (a',b'):=he;cases hb:ak T' T with
   |false=>rw[hb] at he;cases he
   |true=>have:=aH hb;subst this;rw[hb] at he;cases he;exact anh hZ,λT' a' b' he=>by
   have he:(bif ak T' T then some (a,b) else none)=some (a',b'):=he;cases hb:ak T' T with
   |false=>rw[hb] at he;cases he
   |true=>have:=aH hb;subst this;rw[hb] at he;cases he;exact ane (E:=E) h3,λT' he=>by
   have:=aH (show ak T' A=true from he);subst this;exact anf hA⟩
theorem bO.sg(h:bO P E)(j:ae (Nat×Nat×Nat)):bO P {E with sg:=j}:=
 ⟨λT u hT=>A0 (E:=E) (E':={E with sg:=j}) rfl rfl (h.ty T u hT),h.pt,h.p1,h.mp,h.bl,h.gr,h.gz,h.g3,h.ga⟩
theorem bO.sp(h:bO P E)(j:ae (Nat×Nat×Nat×Nat)):bO P {E with sp:=j}:=
 ⟨λT u hT=>A0 (E:=E) (E':={E with sp:=j}) rfl rfl (h.ty T u hT),h.pt,h.p1,h.mp,h.bl,h.gr,h.gz,h.g3,h.ga⟩
theorem bO.ro(h:bO P E)(j:Bool):bO P {E with ro:=j}:=
 ⟨λT u hT=>A0 (E:=E) (E':={E with ro:=j}) rfl rfl (h.ty T u hT),h.pt,h.p1,h.mp,h.bl,h.gr,h.gz,h.g3,h.ga⟩
theorem zO.xA{t:zO}(h:t.ok P=true)(lV rM:Nat->List Nat)(outs:List Nat)(ps:List Ty):bO P (t.env lV rM outs ps):=by
 unfold zO.ok at h;simp only[ap] at h;have tC:∀T,t.G9.getD T false=true->U2 P T=true:=λT C1=>by
  have bR:T<t.G9.length:=by
   rcases Nat.lt_or_ge T t.G9.length with h1|h1
   ·exact h1
   ·rw[al,aS h1] at C1;cases C1
  have:=aR.1 h.2.1 T (List.mem_range.2 bR);rw[C1] at this;simpa using this
 refine⟨λT u hT=> ?_,λT hT=> ?_,λT hT=> ?_,λT k e hT=>Rl h.2.2 hT,λT e hT=>(by cases hT),λT a b hT=>(by cases hT),λT a b hT=>(by cases hT),λT a b hT=>(by cases hT),λT hT=>by cases hT⟩
 ·refine A0 (E:=t.Ep) (E':=t.env lV rM outs ps) rfl rfl (aiT ?_ hT);refine aR.1 h.1 T (List.mem_range.2 ?_);have C1:t.K1.getD T none=some u:=hT;rcases Nat.lt_or_ge T t.K1.length with h1|h1
  ·exact h1
  ·rw[al,aS h1] at C1;cases C1
 ·have:=tC T hT;unfold U2 at this;split at this
  ·rename_i e i he _;exact⟨e,he⟩
  ·cases this
 ·have:=tC T hT;unfold U2 at this;split at this
  ·rename_i e i _ hi;exact⟨i,hi,aH this⟩
  ·cases this
end Go.Ref

namespace Go.Ref
open Go
variable {P:Program} {tq:oK} {E:Env}
abbrev Pure:=(R:Type)->List SV->ae fp->(List SV->ae fp->ae R)->ae R
def Pure.Nat(g:Pure):Prop:=∀(R S:Type) l b (F:List SV->ae fp->ae R) (G:List SV->ae fp->ae S) (K:S->ae R),(∀r b,F r b=(G r b).bind K)->g R l b F=(g S l b G).bind K
def bH.none:bH:=λ_ _ _ _ _=> .none
def bH.add(C:bH)(n:FuncId)(ps:List Ty)(g:Pure):bH:=λR f l b K=>bif ak f n then g R (dk ps l) b K else C R f l b K
theorem ajp:bH.none.Nat:=λ_ _ _ _ _ _ _ _ _=>rfl
theorem agk(f:FuncId):ly P tq bH.none f:=λ_ _ _ _ h=>by cases h
theorem Yp{C:bH}{n:FuncId}{ps:List Ty}{g:Pure}(hC:C.Nat)(hg:g.Nat):(C.add n ps g).Nat:=λR S f l b F G K h=>by
 unfold bH.add;cases ak f n with
 |false=>exact hC R S f l b F G K h
 |true=>exact hg R S _ b F G K h
theorem ail(hE:bO P E)(hm:P.follows .mixedOrders=true){C:bH}(hC:C.Nat)(h0:∀f,ly P tq C f){n:FuncId}{ps:List Ty}{g:Pure}{fn:Func}{code:Code}(qY:P.funcs[n]? =some fn)(Cj:(fn.name== "runtime.NumGoroutine")=false)(yM:fn.body=some code)
 (h:∀(l:List SV) (b:ae fp) (r:List SV) (b':ae fp),g (List SV×ae fp) (dk ps l) b (λr b=>some (r,b))=some (r,b')->∃k,se E (C (List SV×ae fp)) k fn code l b (λr b=>some (r,b))=some (r,b')):∀f,ly P tq (C.add n ps g) f:=by
 intro f;by_cases e:f=n
 ·subst e;refine alJ hE hm hC h0 qY Cj yM λl b r b' hc=>h l b r b' ?_;unfold bH.add at hc;have:ak f f=true:=by simp
  rw[this] at hc;exact hc
 ·intro l b r b' hc;unfold bH.add at hc;have:ak f n=false:=by
   cases hh:ak f n with
   |false=>rfl
   |true=>exact absurd (aH hh) e
  rw[this] at hc;exact h0 f l b r b' hc
def sub:List Nat->Code->Code
 | [],c=>c
 |0::p,.seq a _=>sub p a
 |_::p,.seq _ b=>sub p b
 |0::p,.cond _ a _=>sub p a
 |_::p,.cond _ _ b=>sub p b
 |_::p,.block _ b=>sub p b
 |_::p,.loop b=>sub p b
 |_,c=>c
section
variable {R:Type}
def zn(id:Nat)(K:Ex->State->ae R):Ex->State->ae R:=λe s=>match e with
 | .exit j=>bif ak j id then K .normal s else K (.exit j) s
 |e=>K e s
def aaM(E:Env)(C:FuncId->gK R)(k:Nat)(b:Code)(K:Ex->State->ae R):Ex->State->ae R:=λe s=>match e with
 | .normal=>wD E k (xT b) s λs=>ev E C k b s K
 |e=>K e s
def aaL(E:Env)(rs:List ResultVar)(bx:ae fp)(K:List SV->ae fp->ae R):Ex->State->ae R:=λe s=>match e with
 | .exit _=>none
 |_=>match pZ E s rs with
  |some (l,s')=>LN s' bx (pY E l) K
  |none=>none
end
section
variable {R:Type}
def oY(l:List SV)(K:ae R):ae R:=
 match l with
 | []=>K
 |_=>none
def oZ(t:Ty)(l:List SV)(K:El t->ae R):ae R:=
 match l with
 | [a]=>a.el t K
 |_=>none
def ox(t u:Ty)(l:List SV)(K:El t->El u->ae R):ae R:=
 match l with
 | [a,b]=>a.el t λx=>b.el u λy=>K x y
 |_=>none
def ud(t u v:Ty)(l:List SV)(K:El t->El u->El v->ae R):ae R:=
 match l with
 | [a,b,c]=>a.el t λx=>b.el u λy=>c.el v λz=>K x y z
 |_=>none
def ue(t u v w:Ty)(l:List SV)(K:El t->El u->El v->El w->ae R):ae R:=
 match l with
 | [a,b,c,d]=>a.el t λx=>b.el u λy=>c.el v λz=>d.el w λz'=>K x y z z'
 |_=>none
end
theorem alE{R:Type}{t:Ty}{v:SV}{r:List Ty}{q:List SV}{K:El t->ae R}{z:R}{v':SV}{q':List SV}(hn:dk (t::r) (v::q)=v'::q')(h:v'.el t K=some z):∃y,v'= .bY t y []/\q'=dk r q/\K y=some z:=by
 have key:v'=v.shut/\q'=dk r q\/(∃e u,t= .sl e u/\v'= .bY (.sl e u) ([]:List (El u)) []/\q'=dk r q):=by cases t<;>cases v<;>simp only[dk,List.cons.injEq] at hn<;>first|exact .inl ⟨hn.1.symm,hn.2.symm⟩|exact .inr ⟨_,_,rfl,hn.1.symm,hn.2.symm⟩
 rcases key with⟨rfl,rfl⟩|⟨e,u,rfl,rfl,rfl⟩
 ·cases v with
  |bY t' x own=>
   simp only[SV.shut,SV.el] at h;split at h
   ·rename_i heq;have:=Ty.cT heq;subst this;exact⟨x,rfl,rfl,h⟩
   ·cases h
  |jR=>cases t<;>first|(simp [SV.shut,SV.el] at h;done)|(simp [dk,SV.shut] at hn;done)
  |_=>simp [SV.shut,SV.el] at h
 ·simp only[SV.el,Ty.iG,dite_true] at h;exact⟨[],rfl,rfl,h⟩
theorem PR(hE:bO P E){H:Type}{enc:TypeId×Value->H}{w:World}{spare:Nat->Bool}{held:Bool}{β:Nat->ae Nat}{base b:Nat}{T:TypeId}{t:Ty}{v:Value}{d:DataW H}{ps:List MemPlace}(hT:E.ty T=some t)(po:t.pE=true)
 (hv:my P w .any b T v) (hd:DataW.Trod enc P w base spare held T v d ps):∃y:El t,Wf t y/\∀q,cw (A6 w β) q (.bY t y []) v:=by
 obtain⟨iT,hd⟩:=hd;obtain⟨y,r,wf⟩:=(alU (β:=β) hE t).1 T iT _ _ hT po hd;refine⟨y,wf,λq=>⟨_,r,?_,vu⟩⟩;have hu:=(hE.ty T t hT).me;have hl:=r.len;cases ht:t.agg with
 |true=>
  rw[sw ht];have:∃cs,v= .agg cs:=by
   unfold my at hv;cases t with
   |arr n t=>obtain⟨e,h1,_⟩:=hu;rw[h1] at hv;obtain⟨cs,h,_⟩:=hv;exact⟨cs,h⟩
   |unit=>obtain⟨fs,h1,_⟩:=hu;rw[h1] at hv;obtain⟨cs,h,_⟩:=hv;exact⟨cs,h⟩
   |pair a b=>obtain⟨fs,h1,_⟩:=hu;rw[h1] at hv;obtain⟨cs,h,_⟩:=hv;exact⟨cs,h⟩
   |dJ k a b=>exact absurd (hE.rB hT) (by simp [Ty.fG])
   |_=>simp [Ty.agg] at ht
  obtain⟨cs,rfl⟩:=this;rfl
 |false=>
  have aaw:∀cs,v≠ .agg cs:=by
   rintro cs rfl;unfold my at hv;cases t with
   |bool=>have hu:P.underlying T=some .bool:=hu;rw[hu] at hv;unfold lm at hv;rw[hu] at hv;unfold Cell.ok at hv;rw[hu] at hv;exact hv
   |int k=>have hu:P.underlying T=some (.int k):=hu;rw[hu] at hv;unfold lm at hv;rw[hu] at hv;unfold Cell.ok at hv;rw[hu] at hv;exact hv
   |str=>have hu:P.underlying T=some .string:=hu;rw[hu] at hv;unfold lm at hv;rw[hu] at hv;unfold Cell.ok at hv;rw[hu] at hv;exact hv
   |sl e t=>have hu:P.underlying T=some (.slice e):=hu.1;rw[hu] at hv;unfold lm at hv;rw[hu] at hv;unfold Cell.ok at hv;rw[hu] at hv;exact hv
   |_=>simp [Ty.agg] at ht
  have hc:v.cells.toList=[v]:=by cases v<;>first|rfl|exact absurd rfl (aaw _)
  rw[hc,TS ht]
theorem adP{w:World}{β:Nat->ae Nat}{Y:cc}(h:Ext (A6 w β) Y):∀g,g<w.heap.size->Y.w.heap[g]? =w.heap[g]? :=λg hg=>(h.still g hg trivial).2
end Go.Ref

namespace Go.Ref
open Go
theorem JK{x:Int}(h1: -9223372036854775808<=x)(h2:x<=9223372036854775807):IntKind.i64.wrap x=x:=by simp [IntKind.wrap,IntKind.signed,IntKind.bits];omega
theorem ag4{R:Type}{j n:Nat}{x:ae R}(h:j<n):zd (j:Int) n x=x:=by unfold zd;rw[decide_eq_true (by omega:(0:Int)<=j),decide_eq_true (by omega:(j:Int)<n)];rfl
variable {P:Program} {tq:oK} {E:Env}
def TV(X:cc):List SV->List Value->Prop
 | [],[]=>True
 |s::l,v::vs=>(∀q,cw X q s v)/\(∀id t p,s≠ .ptr id t p)/\TV X l vs
 |_,_=>False
theorem zri{X:cc}:∀{l:List SV} {vs:List Value},TV X l vs->vs.length=l.length/\∀(i:Nat) s v,l[i]? =some s->vs[i]? =some v->(∀q,cw X q s v)/\∀id t p,s≠ .ptr id t p
 | [],[],_=>⟨rfl,λi s v h=>by simp at h⟩
 |s::l,v::vs,h=>by
  obtain⟨h1,h2,h3⟩:=h;obtain⟨g1,g2⟩:=zri h3;refine⟨by simp [g1],λi s' v' hs hv=> ?_⟩;cases i with
  |zero=>simp only[bU,aC] at hs hv;subst hs hv;exact⟨h1,h2⟩
  |succ i=>simp only[bI] at hs hv;exact g2 i s' v' hs hv
theorem aiQ{X:cc}{l:List SV}{args:Array Value}(h:TV X l args.toList)(hX:∀g pl n,X.ow g≠ .row pl n)(hβ:∀id,X.β id=none)(hg:Good tq X):sK tq X l none args:=by
 obtain⟨h1,h2⟩:=zri h;refine⟨by simpa using h1,λi sv v hs hv=>(h2 i sv v hs (by simpa using hv)).1 _,λid t p hm=> ?_,λB hB=>(by cases hB),λ_=>hX,cH.2 λv hm=> ?_,hg⟩
 ·obtain⟨i,hi⟩:=cX.1 hm;have bR:=(aA.1 hi).1;have pj:i<args.toList.length:=by omega
  exact absurd rfl ((h2 i _ _ hi (av pj)).2 id t p)
 ·obtain⟨i,hi⟩:=cX.1 hm;have bR:=(aA.1 hi).1;have pj:i<args.toList.length:=by omega
  have hv:=(h2 i _ _ hi (av pj)).1 (λ_=> .r 0 []);cases v with
  |fc id c d j=>obtain⟨r,e,_⟩:=hv;rw[hβ id] at e;cases e
  |_=>simp [SV.gi]
theorem agC{C:bH}{f:FuncId}(ho:ly P tq C f){l:List SV}{args:Array Value}{W:World}{b:Bool}(hc:C (List SV×ae fp) f l none (λr b=>some (r,b))=some ([.bY .bool b []],none))(ql:TV (A6 W λ_=>none) l args.toList)(hg:Good tq (A6 W λ_=>none):=by exact λe he=>(by cases he)):
 Calls P f args W λe w'=>e= .returned (.bool b)/\gZ W.heap.size W w':=by
 refine((ho l none _ _ hc).2 (A6 W λ_=>none) args (aiQ ql (λg pl n e=>by cases e) (λ_=>rfl) hg)).mono λe w' he=> ?_;cases e with
 |returned v=>obtain⟨Y,rfl,dO,r0,de,_,_,_⟩:=he;have de:cw {Y with β:=λ_=>some r0} (.r 0) (.bY .bool b []) v:=de;refine⟨by rw[Su de],dO.os,dO.tape,dO.output,dO.size,λk hk=>adP dO k hk⟩
 |panicked c=>exact he.elim
 |outgrown=>exact he.elim
end Go.Ref

namespace Go.Ref
open Go
variable {P:Program} {E:Env}
def bs(l:List Nat):af:=⟨(l.map UInt8.ofNat).toArray⟩
@[irreducible] def bG:Nat:=18446744073709551616
section
variable {R S:Type}
def Ov(body:State->(Ex->State->ae R)->ae R)(l lx:List Nat)(k:Nat)(K:Ex->State->ae R):Ex->State->ae R:=λe s=>match e with
 | .normal=>AJ l s λs=>pu body l lx k s K
 |e=>AJ lx s λs=>K e s
def sS(t:Ty)(own:List (List Nat))(l:List SV)(b:ae fp)(K:El t->List SV->ae R):ae R:=
 match l,b with
 | .ptr 0 u []::r,some B=>if h:B.t.iS t=true then if(u.iS t&&B.own==own)=true then K (Ty.cast h B.x) r else none else none
 |_,_=>none
def uc(t pt bt:Ty)(own:List (List Nat))(l:List SV)(b:ae fp)(K:El t->El bt->ae R):ae R:=
 match l,b with
 | [a,.ptr 0 u []],some B=>if h:B.t.iS bt=true then if(u.iS pt&&B.own==own)=true then a.el t λy=>K y (Ty.cast h B.x) else none else none
 |_,_=>none
def LL(t u v w:Ty)(l:List SV)(K:El t->El u->El v->El w->ae R):ae R:=
 match l with
 | [a,b,.view v' x,.view w' y]=>if h:v'.iS v=true then if h2:w'.iS w=true then a.el t λp=>b.el u λq=>K p q (Ty.cast h x) (Ty.cast h2 y) else none else none
 |_=>none
def pw(b:ae fp)(K:ae R):ae R:=
 match b with
 |none=>K
 |some _=>none
theorem JV{b:ae fp}{F:ae R}{G:ae S}{K:S->ae R}(h:F=G.bind K):pw b F=(pw b G).bind K:=by
 cases b
 ·exact h
 ·rfl
theorem JQ{b:ae fp}{F:ae R}{z:R}(h:pw b F=some z):b=none/\F=some z:=by
 cases b
 ·exact⟨rfl,h⟩
 ·cases h
theorem zgk(c:Bool)(x y:ae S)(F:S->ae R):(bif c then x else y).bind F=bif c then x.bind F else y.bind F:=by cases c<;>rfl
theorem acQ(i:Int)(n:Nat)(x:ae S)(F:S->ae R):(zd i n x).bind F=zd i n (x.bind F):=by unfold zd;rw[zgk,zgk];rfl
theorem agj(F:S->ae R):(none:ae S).bind F=none:=Eq.trans rfl rfl
theorem zc(x:S)(F:S->ae R):(some x).bind F=F x:=Eq.trans rfl rfl
theorem ajJ{α β:Type}(f:α->ae S)(g:β->ae S)(e:α⊕β)(F:S->ae R):(aI f g e).bind F=aI (λx=>(f x).bind F) (λx=>(g x).bind F) e:=by cases e<;>rfl
theorem afl{α:Type}(x:ae α)(f:α->ae S)(F:S->ae R):(x.bind f).bind F=x.bind λy=>(f y).bind F:=by cases x<;>rfl
theorem zg5{l:List SV}{F:ae R}{G:ae S}{K:S->ae R}(h:F=G.bind K):oY l F=(oY l G).bind K:=by
 unfold oY;split
 ·exact h
 ·rfl
theorem zg6{t:Ty}{l:List SV}{F:El t->ae R}{G:El t->ae S}{K:S->ae R}(h:∀x,F x=(G x).bind K):oZ t l F=(oZ t l G).bind K:=by
 unfold oZ;split
 ·exact zw h
 ·rfl
theorem zg7{t u:Ty}{l:List SV}{F:El t->El u->ae R}{G:El t->El u->ae S}{K:S->ae R}(h:∀x y,F x y=(G x y).bind K):ox t u l F=(ox t u l G).bind K:=by
 unfold ox;split
 ·exact zw λx=>zw λy=>h x y
 ·rfl
theorem afg{t u v:Ty}{l:List SV}{F:El t->El u->El v->ae R}{G:El t->El u->El v->ae S}{K:S->ae R}(h:∀x y z,F x y z=(G x y z).bind K):ud t u v l F=(ud t u v l G).bind K:=by
 unfold ud;split
 ·exact zw λx=>zw λy=>zw λz=>h x y z
 ·rfl
theorem afh{t u v w:Ty}{l:List SV}{F:El t->El u->El v->El w->ae R}{G:El t->El u->El v->El w->ae S}{K:S->ae R}(h:∀x y z a,F x y z a=(G x y z a).bind K):ue t u v w l F=(ue t u v w l G).bind K:=by
 unfold ue;split
 ·exact zw λx=>zw λy=>zw λz=>zw λa=>h x y z a
 ·rfl
theorem z93{t:Ty}{own:List (List Nat)}{l:List SV}{b:ae fp}{F:El t->List SV->ae R}{G:El t->List SV->ae S}{K:S->ae R}(h:∀x r,F x r=(G x r).bind K):sS t own l b F=(sS t own l b G).bind K:=by
 unfold sS;split
 ·split
  ·split
   ·exact h _ _
   ·rfl
  ·rfl
 ·rfl
theorem aff{t pt bt:Ty}{own:List (List Nat)}{l:List SV}{b:ae fp}{F:El t->El bt->ae R}{G:El t->El bt->ae S}{K:S->ae R}(h:∀x y,F x y=(G x y).bind K):uc t pt bt own l b F=(uc t pt bt own l b G).bind K:=by
 unfold uc;split
 ·split
  ·split
   ·exact zw λy=>h _ _
   ·rfl
  ·rfl
 ·rfl
theorem ac7{t u v w:Ty}{l:List SV}{F:El t->El u->El v->El w->ae R}{G:El t->El u->El v->El w->ae S}{K:S->ae R}(h:∀x y z a,F x y z a=(G x y z a).bind K):LL t u v w l F=(LL t u v w l G).bind K:=by
 unfold LL;split
 ·split
  ·split
   ·exact zw λx=>zw λy=>h x y _ _
   ·rfl
  ·rfl
 ·rfl
theorem Ay{α:Type}{m:ae α}{F:α->ae R}{G:α->ae S}{K:S->ae R}(h:∀r,F r=(G r).bind K):m.bind F=(m.bind G).bind K:=by
 cases m with
 |none=>rfl
 |some x=>exact h x
theorem zxl{α β:Type}{f:α->ae R}{g:β->ae R}{f':α->ae S}{g':β->ae S}{K:S->ae R}{e:α⊕β}(h1:∀x,f x=(f' x).bind K)(h2:∀x,g x=(g' x).bind K):aI f g e=(aI f' g' e).bind K:=by
 cases e with
 |inl x=>exact h1 x
 |inr x=>exact h2 x
end
section
variable {R:Type}
theorem afU{C:FuncId->gK R}{k:Nat}{fn:Func}{code:Code}{l q:List SV}{b:ae fp}{K:List SV->ae fp->ae R}(h:dk E.ps l=q)(hq:dk E.ps q=q)(hl:q.length=l.length):se E C k fn code l b K=se E C k fn code q b K:=by unfold se;simp only[h,hq,hl]
theorem zze:∀{ts:List Ty} {q:List SV},(∀s∈q,s.shut=s/\s≠ .jR)->dk ts q=q
 |ts,[],_=>by cases ts<;>simp [dk]
 | [],q,_=>by simp [dk]
 |t::r,v::q,h=>by have h1:=h v (by simp);have h2:=zze (ts:=r) (q:=q) (λs hs=>h s (by simp [hs]));cases t<;>cases v<;>simp [dk,h2]<;>first|exact h1.1|exact absurd rfl h1.2
theorem ajq{ts:List Ty}{l:List SV}(h:dk ts l=[]):l=[]:=by have:=VH ts l;rw[h] at this;exact List.length_eq_zero_iff.1 this.symm
theorem zzd{t:Ty}{r:List Ty}{l:List SV}{v':SV}{q':List SV}(h:dk (t::r) l=v'::q'):∃v q,l=v::q:=by
 cases l with
 |nil=>simp [dk] at h
 |cons v q=>exact⟨v,q,rfl⟩
theorem wZ{t:Ty}{r:List Ty}{l:List SV}{a:SV}{q':List SV}{K:El t->ae R}{z:R}(hn:dk (t::r) l=a::q')(h:a.el t K=some z):∃y v q,a= .bY t y []/\l=v::q/\dk r q=q'/\K y=some z:=by obtain⟨v,q,rfl⟩:=zzd hn;obtain⟨y,h1,h2,h3⟩:=alE hn h;exact⟨y,v,q,h1,rfl,h2.symm,h3⟩
theorem JY{l q:List SV}(hn:dk E.ps l=q)(hd:∀s∈q,s.shut=s/\s≠ .jR){C:FuncId->gK R}{k:Nat}{fn:Func}{code:Code}{b:ae fp}{K:List SV->ae fp->ae R}:se E C k fn code l b K=se E C k fn code q b K:=
 afU hn (zze hd) (by rw[<-hn,VH])
theorem Fv{t:Ty}{x:El t}:(SV.bY t x []).shut=SV.bY t x []/\SV.bY t x []≠ .jR:=⟨rfl,by simp⟩
def qc(E:Env)(l q:List SV):Prop:=∀{R:Type} (C:FuncId->gK R) (k:Nat) (fn:Func) (code:Code) (b:ae fp) (K:List SV->ae fp->ae R),se E C k fn code l b K=se E C k fn code q b K
theorem E0{l:List SV}{F:ae R}{z:R}(ri:E.ps=[])(h:oY (dk [] l) F=some z):F=some z/\qc E l []:=by
 unfold oY at h;split at h
 ·rename_i hn;have:=ajq hn;subst this;exact⟨h,λC k fn code b K=>rfl⟩
 ·cases h
theorem OA{t:Ty}{l:List SV}{F:El t->ae R}{z:R}(ri:E.ps=[t])(h:oZ t (dk [t] l) F=some z):∃x,F x=some z/\qc E l [.bY t x []]:=by
 unfold oZ at h;split at h
 ·rename_i a hn;obtain⟨x,v,q,rfl,rfl,h1,h⟩:=wZ hn h;refine⟨x,h,λC k fn code b K=>JY (by rw[ri];exact hn) ?_⟩;intro s hs;simp only[aD,dZ,or_false] at hs;subst hs;exact Fv
 ·cases h
theorem tm{t u:Ty}{l:List SV}{F:El t->El u->ae R}{z:R}(ri:E.ps=[t,u])(h:ox t u (dk [t,u] l) F=some z):∃x y,F x y=some z/\qc E l [.bY t x [],.bY u y []]:=by
 unfold ox at h;split at h
 ·rename_i a b hn;obtain⟨x,v,q,rfl,rfl,h1,h⟩:=wZ hn h;obtain⟨y,v',q',rfl,rfl,h2,h⟩:=wZ h1 h;refine⟨x,y,h,λC k fn code b K=>JY (by rw[ri];exact hn) ?_⟩;intro s hs;simp only[aD,dZ,or_false] at hs;rcases hs with rfl|rfl<;>exact Fv
 ·cases h
theorem abA{t u v:Ty}{l:List SV}{F:El t->El u->El v->ae R}{z:R}(ri:E.ps=[t,u,v])(h:ud t u v (dk [t,u,v] l) F=some z):∃x y a,F x y a=some z/\qc E l [.bY t x [],.bY u y [],.bY v a []]:=by
 unfold ud at h;split at h
 ·rename_i a b c hn;obtain⟨x,v,q,rfl,rfl,h1,h⟩:=wZ hn h;obtain⟨y,v',q',rfl,rfl,h2,h⟩:=wZ h1 h;obtain⟨w,v',q',rfl,rfl,h3,h⟩:=wZ h2 h;refine⟨x,y,w,h,λC k fn code b K=>JY (by rw[ri];exact hn) ?_⟩;intro s hs;simp only[aD,dZ,or_false] at hs;rcases hs with rfl|rfl|rfl<;>exact Fv
 ·cases h
theorem abB{t u v w:Ty}{l:List SV}{F:El t->El u->El v->El w->ae R}{z:R}(ri:E.ps=[t,u,v,w])(h:ue t u v w (dk [t,u,v,w] l) F=some z):∃x y a b,F x y a b=some z/\qc E l [.bY t x [],.bY u y [],.bY v a [],.bY w b []]:=by
 unfold ue at h;split at h
 ·rename_i a b c d hn;obtain⟨x,v,q,rfl,rfl,h1,h⟩:=wZ hn h;obtain⟨y,v',q',rfl,rfl,h2,h⟩:=wZ h1 h;obtain⟨w,v',q',rfl,rfl,h3,h⟩:=wZ h2 h;obtain⟨w',v',q',rfl,rfl,h4,h⟩:=wZ h3 h;refine⟨x,y,w,w',h,λC k fn code b K=>JY (by rw[ri];exact hn) ?_⟩;intro s hs;simp only[aD,dZ,or_false] at hs;rcases hs with rfl|rfl|rfl|rfl<;>exact Fv
 ·cases h
theorem zg4{t:Ty}{own:List (List Nat)}{l:List SV}{b:ae fp}{F:El t->List SV->ae R}{z:R}(h:sS t own l b F=some z):∃x r,l= .ptr 0 t []::r/\b=some ⟨t,x,own⟩/\F x r=some z:=by
 unfold sS at h;split at h
 ·rename_i u r B;split at h
  ·rename_i hB;split at h
   ·rename_i hu;simp only[ap,beq_iff_eq] at hu;obtain⟨h1,h2⟩:=hu;obtain⟨Bt,Bx,Bo⟩:=B;have:=Ty.cT hB;have h3:=Ty.cT h1;subst this;subst h3;subst h2;exact⟨Bx,r,rfl,rfl,h⟩
   ·cases h
  ·cases h
 ·cases h
theorem ajB{ts:List Ty}{l:List SV}{t:Ty}{r:List SV}(h:dk (.unit::ts) l= .ptr 0 t []::r):∃q,l= .ptr 0 t []::q/\dk ts q=r:=by obtain⟨v,q,rfl⟩:=zzd h;cases v<;>simp [dk,SV.shut] at h;obtain⟨⟨rfl,rfl,rfl⟩,h2⟩:=h;exact⟨q,rfl,h2⟩
theorem Ss{t:Ty}:(SV.ptr 0 t []).shut=SV.ptr 0 t []/\SV.ptr 0 t []≠ .jR:=⟨rfl,by simp⟩
theorem IM{t:Ty}{own:List (List Nat)}{ts:List Ty}{l:List SV}{b:ae fp}{F:El t->List SV->ae R}{z:R}(h:sS t own (dk (.unit::ts) l) b F=some z):∃x q,l= .ptr 0 t []::q/\b=some ⟨t,x,own⟩/\F x (dk ts q)=some z:=by obtain⟨x,r,h1,h2,h3⟩:=zg4 h;obtain⟨q,rfl,hq⟩:=ajB h1;exact⟨x,q,rfl,h2,by rw[hq];exact h3⟩
theorem qc.ptr{t:Ty}{ts:List Ty}{q q':List SV}(ri:E.ps= .unit::ts)(hn:dk ts q=q')(hd:∀s∈q',s.shut=s/\s≠ .jR):qc E (.ptr 0 t []::q) (.ptr 0 t []::q'):=λC k fn code b K=>
 JY (by rw[ri];simp [dk,SV.shut,hn]) (λs hs=>by
  rcases aD.1 hs with rfl|hs
  ·exact Ss
  ·exact hd s hs)
theorem OB{t:Ty}{q:List SV}{F:ae R}{z:R}(ri:E.ps=[.unit])(h:oY (dk [] q) F=some z):F=some z/\qc E (.ptr 0 t []::q) [.ptr 0 t []]:=by
 unfold oY at h;split at h
 ·rename_i hn;exact⟨h,qc.ptr ri hn (by simp)⟩
 ·cases h
theorem OC{t u:Ty}{q:List SV}{F:El u->ae R}{z:R}(ri:E.ps=[.unit,u])(h:oZ u (dk [u] q) F=some z):∃x,F x=some z/\qc E (.ptr 0 t []::q) [.ptr 0 t [],.bY u x []]:=by
 unfold oZ at h;split at h
 ·rename_i a hn;obtain⟨x,v,q,rfl,rfl,h1,h⟩:=wZ hn h;refine⟨x,h,qc.ptr ri hn ?_⟩;intro s hs;simp only[aD,dZ,or_false] at hs;subst hs;exact Fv
 ·cases h
theorem OD{t u v:Ty}{q:List SV}{F:El u->El v->ae R}{z:R}(ri:E.ps=[.unit,u,v])(h:ox u v (dk [u,v] q) F=some z):∃x y,F x y=some z/\qc E (.ptr 0 t []::q) [.ptr 0 t [],.bY u x [],.bY v y []]:=by
 unfold ox at h;split at h
 ·rename_i a b hn;obtain⟨x,v,q,rfl,rfl,h1,h⟩:=wZ hn h;obtain⟨y,v',q',rfl,rfl,h2,h⟩:=wZ h1 h;refine⟨x,y,h,qc.ptr ri hn ?_⟩;intro s hs;simp only[aD,dZ,or_false] at hs;rcases hs with rfl|rfl<;>exact Fv
 ·cases h
theorem OG{t pt bt:Ty}{own:List (List Nat)}{l:List SV}{b:ae fp}{F:El t->El bt->ae R}{z:R}(ri:E.ps=[t,.unit])(h:uc t pt bt own (dk [t,.unit] l) b F=some z):
 ∃x y,b=some ⟨bt,y,own⟩/\F x y=some z/\qc E l [.bY t x [],.ptr 0 pt []]:=by
 unfold uc at h;split at h
 ·rename_i a u B hn;split at h
  ·rename_i hB;split at h
   ·rename_i hu;simp only[ap,beq_iff_eq] at hu;obtain⟨h1,h2⟩:=hu;obtain⟨Bt,Bx,Bo⟩:=B;have:=Ty.cT hB;have h3:=Ty.cT h1;subst this;subst h3;subst h2;obtain⟨y,v,q,rfl,rfl,h4,h⟩:=wZ hn h;refine⟨y,Bx,rfl,h,λC k fn code b K=>JY (by rw[ri];exact hn) ?_⟩;intro s hs;simp only[aD,dZ,or_false] at hs;rcases hs with rfl|rfl
    ·exact Fv
    ·exact Ss
   ·cases h
  ·cases h
 ·cases h
theorem Rz{t:Ty}{x:El t}:(SV.view t x).shut=SV.view t x/\SV.view t x≠ .jR:=⟨rfl,by simp⟩
theorem OE{t u v w:Ty}{l:List SV}{F:El t->El u->El v->El w->ae R}{z:R}(ri:E.ps=[t,u,.unit,.unit])(h:LL t u v w (dk [t,u,.unit,.unit] l) F=some z):
 ∃p q x y,F p q x y=some z/\qc E l [.bY t p [],.bY u q [],.view v x,.view w y]:=by
 unfold LL at h;split at h
 ·rename_i a b v' x w' y hn;split at h
  ·rename_i hv;split at h
   ·rename_i hw;have:=Ty.cT hv;have h3:=Ty.cT hw;subst this;subst h3;obtain⟨p,v1,q1,rfl,rfl,h4,h⟩:=wZ hn h;obtain⟨q,v2,q2,rfl,rfl,h5,h⟩:=wZ h4 h;refine⟨p,q,x,y,h,λC k fn code b K=>JY (by rw[ri];exact hn) ?_⟩;intro s hs;simp only[aD,dZ,or_false] at hs;rcases hs with rfl|rfl|rfl|rfl
    ·exact Fv
    ·exact Fv
    ·exact Rz
    ·exact Rz
   ·cases h
  ·cases h
 ·cases h
end
end Go.Ref

namespace Go.Ref
open Go
variable {P:Program} {tq:oK} {E:Env}
def cc.after(X:cc)(w:World):cc:=⟨w,λg=>if g<X.w.heap.size then X.ow g else .ro 0,X.β⟩
theorem zr5{X:cc}{w:World}(h:gZ X.w.heap.size X.w w){a:Addr}{v:Value}(hs:X.cn a v):(X.after w).cn a v:=by
 have bR:=cc.qV hs;refine⟨hs.1,?_,?_⟩
 ·have:=hs.2.1;simp only[bT] at this⊢;rw[show(X.after w).w=w from rfl,h.block _ bR];exact this
 ·simp only[cc.after];rw[if_pos bR];exact hs.2.2
theorem afc{X:cc}{w:World}(h:gZ X.w.heap.size X.w w):Ext X (X.after w) where
 cn:=λ_ _=>zr5 h
 size:=h.size
 os:=h.os
 tape:=h.tape
 output:=h.output
 β0:=rfl
 still:=λg hg _=>⟨by simp only[cc.after];rw[if_pos hg],h.block g hg⟩
theorem aja{C:bH}(h0:∀f,ly P tq C f){n:FuncId}{g:Pure}(nC:AM P n)
 (h:∀(l:List SV) (b:ae fp) (r:List SV) (b':ae fp),g (List SV×ae fp) l b (λr b=>some (r,b))=some (r,b')->b'=none/\(∀id t p,SV.ptr id t p∉r)/\r.any SV.gi=false/\
   ∀(X:cc) (args:Array Value),sK tq X l b args->Calls P n args X.w λe w'=>∃v,e= .returned v/\gZ X.w.heap.size X.w w'/\∀Y:cc,Y.w=w'->(∀a v,X.cn a v->Y.cn a v)->kC Y .r r v):∀f,ly P tq (C.add n [] g) f:=by
 intro f;by_cases e:f=n
 ·subst e;intro l b r b' hc;unfold bH.add at hc;have hb:ak f f=true:=by simp
  rw[hb] at hc;have hc:g (List SV×ae fp) (dk [] l) b (λr b=>some (r,b))=some (r,b'):=hc;have hl:dk [] l=l:=by cases l<;>rfl
  rw[hl] at hc;obtain⟨rfl,hp,na,Ig⟩:=h l b r b' hc;refine⟨nC,λX args ql=>(Ig X args ql).mono λe w' he=> ?_⟩;obtain⟨v,rfl,hB,de⟩:=he;refine⟨X.after w',rfl,afc hB,0,de {X.after w' with β:=λ_=>some 0} rfl (λa v hs=>(zr5 hB hs:(X.after w').cn a v)),λB' nw=>(by cases nw),λ_=>hp,na⟩
 ·intro l b r b' hc;unfold bH.add at hc;have:ak f n=false:=by
   cases hh:ak f n with
   |false=>rfl
   |true=>exact absurd (aH hh) e
  rw[this] at hc;exact h0 f l b r b' hc
theorem zyk{X:cc}{l:List SV}{b:ae fp}{args:Array Value}(h:sK tq X l b args){i:Nat}{sv:SV}(hs:l[i]? =some sv){x:af}(hx:∀(X:cc) (pl:List Nat->Place) (v:Value),cw X pl sv v->∃cs,eI X .str x cs/\v=mW .str cs):args[i]? =some (.string x):=by
 have bR:i<args.size:=by rw[h.size];exact(aA.1 hs).1
 rw[bh bR];obtain⟨cs,h1,h2⟩:=hx X _ _ (h.rep i sv _ hs (bh bR));rw[h2,wQ h1]
theorem afS{X:cc}{l:List SV}{b:ae fp}{args:Array Value}(h:sK tq X l b args){i:Nat}{sv:SV}(hs:l[i]? =some sv){k:IntKind}{n:Int}(hx:∀(X:cc) (pl:List Nat->Place) (v:Value),cw X pl sv v->∃cs,eI X (.int k) n cs/\v=mW (.int k) cs):args[i]? =some (.int k n):=by
 have bR:i<args.size:=by rw[h.size];exact(aA.1 hs).1
 rw[bh bR];obtain⟨cs,h1,h2⟩:=hx X _ _ (h.rep i sv _ hs (bh bR));rw[h2,uG h1]
theorem aip{args:Array Value}{v:Value}(hs:args.size=1)(h:args[0]? =some v):args= #[v]:=by
 apply Array.ext'
 match hl:args.toList,(show args.toList.length=1 by simpa using hs) with
 | [x],_=>
   have:args.toList[0]? =some v:=by simpa using h
   rw[hl] at this;simpa using this
theorem Pb{args:Array Value}{u v:Value}(hs:args.size=2)(h:args[0]? =some u)(h1:args[1]? =some v):args= #[u,v]:=by
 apply Array.ext'
 match hl:args.toList,(show args.toList.length=2 by simpa using hs) with
 | [x,y],_=>
   have a:args.toList[0]? =some u:=by simpa using h
   have b:args.toList[1]? =some v:=by simpa using h1
   rw[hl] at a b;simp at a b;rw[a,b]
theorem ajb{C:bH}(h0:∀f,ly P tq C f){n:FuncId}(nC:AM P n)(F:af->Int->ae af)
 (h:∀(s:af) (k:Int) (r:af),F s k=some r->∀w:World,Calls P n #[.string s,.int .i64 k] w λe w'=>e= .returned (.string r)/\gZ w.heap.size w w'):
 ∀f,ly P tq (C.add n [] λR l b K=>pw b (ox .str (.int .i64) l λx0 x1=>(F x0 x1).bind λr=>K [.bY .str r []] none)) f:=by
 refine aja h0 nC λl b r b' hc=> ?_;obtain⟨hb,hc2⟩:=JQ hc;clear hc;subst hb;have hc:=hc2;clear hc2;unfold ox at hc;split at hc
 case h_2=>cases hc
 rename_i sa sb;obtain⟨s,hc,hs⟩:=zz hc;obtain⟨k,hc,hk⟩:=zz hc;have hc:((F s k).bind λr=>some (([SV.bY .str r []]:List SV),(none:ae fp)))=some (r,b'):=hc;cases hF:F s k with
 |none=>rw[hF] at hc;cases hc
 |some x=>rw[hF] at hc;cases hc;refine⟨rfl,(λid t p hm=>by simp at hm),rfl,λX args ql=> ?_⟩;have e:=Pb ql.size (zyk ql rfl hs) (afS ql rfl hk);rw[e];exact(h s k x hF X.w).mono λe w' ⟨he,hB⟩=>⟨_,he,hB,λY _ _=>Hr⟩
end Go.Ref
namespace eD
open Go Go.Ref
def strings_Repeat(s:af)(k:Int):ae af:=
 bif decide (0<=k) then bif decide (k<=9223372036854775807) then bif decide ((s.size:Int)*k<=140737488355328) then some ⟨(Go.Lib.repeatL s.data.toList k.toNat).toArray⟩ else none else none else none
theorem zdf{P:Program}{ρ:Go.Shelf.Ren}(L:Go.Proofs.Lays.n105 P ρ)(B:Go.Proofs.Builder.Extra P ρ){n:FuncId}(hn:ρ.f 105=n)(s:af)(k:Int)(r:af)(h:strings_Repeat s k=some r)(w:World):
 Calls P n #[.string s,.int .i64 k] w λe w'=>e= .returned (.string r)/\gZ w.heap.size w w':=by
 subst hn;unfold strings_Repeat at h;by_cases h0:0<=k
 ·by_cases h1:k<=9223372036854775807
  ·by_cases h2:(s.size:Int)*k<=140737488355328
   ·rw[decide_eq_true h0,decide_eq_true h1,decide_eq_true h2] at h;cases h;obtain⟨c,rfl⟩:∃c:Nat,k=(c:Int):=⟨k.toNat,by omega⟩
    exact Go.Proofs.Any.strings_Repeat L B s c w (by omega) (by rw[<-Int.natCast_mul] at h2;omega)
   ·rw[decide_eq_true h0,decide_eq_true h1,decide_eq_false h2] at h;cases h
  ·rw[decide_eq_true h0,decide_eq_false h1] at h;cases h
 ·rw[decide_eq_false h0] at h;cases h
end eD

namespace Go.Ref
open Go Go.Shelf Go.RowKit Go.Proofs
variable {P:Program} {tq:oK} {E:Env} {ρ:Ren}
abbrev E5(T e:TypeId):Ty:= .dJ (.sd T e) .unit .unit
def z24(x s:af):ae (Int×af):=bif decide (x.size+s.size<=140737488355328) then some ((s.size:Int),x++s) else none
def z5h(x:af):ae (af×af):=some (x,x)
def Ue(T e:TypeId):Pure:=λR l b K=>sS (E5 T e) [[]] l b λx0 l=>oZ .str l λx1=>(z24 x0 x1).bind λr=>K [.bY (.int .i64) r.1 [],.undef] (some ⟨E5 T e,r.2,[[]]⟩)
def Ud(T e:TypeId):Pure:=λR l b K=>sS (E5 T e) [[]] l b λx0 l=>oY l ((z5h x0).bind λr=>K [.bY .str r.1 []] (some ⟨E5 T e,r.2,[]⟩))
theorem am9(T e:TypeId):(Ue T e).Nat:=λR S l b F G K h=>z93 λ_ _=>zg6 λ_=>Ay λ_=>h _ _
theorem am8(T e:TypeId):(Ud T e).Nat:=λR S l b F G K h=>z93 λ_ _=>zg5 (Ay λ_=>h _ _)
theorem aci(x s:af):ew (x++s)=ew x++ew s:=by simp [ew,ByteArray.data_append]
def cc.sd(X:cc)(w:World)(r:Nat)(g:ae Nat):cc:=⟨w,λk=>if k=r then .box 0 else if g=some k then .row (.b 0 []) 0 else if k<X.w.heap.size then X.ow k else .ro 0,X.β⟩
theorem QV{X:cc}{w:World}{r:Nat}{g0 g:ae Nat}(how:X.ow r= .box 0)(h0:∀k,g0=some k->X.ow k= .row (.b 0 []) 0)(h:pJ r g0 X.w w)(hg:∀k,g=some k->g0=some k\/X.w.heap.size<=k):Ext X (X.sd w r g):=by
 have lV:∀k,k<X.w.heap.size->X.ow k≠ .box 0->X.ow k≠ .row (.b 0 []) 0->(X.sd w r g).ow k=X.ow k/\w.heap[k]? =X.w.heap[k]? :=λk hk h1 h2=>by
  have hr:k≠r:=λe=>h1 (by rw[e];exact how);have hg1:g≠some k:=λe=>by
   rcases hg k e with e2|e2
   ·exact h2 (h0 k e2)
   ·omega
  have hg2:some k≠g0:=λe=>h2 (h0 k e.symm);refine⟨?_,h.block k hk hr hg2⟩;simp only[cc.sd];rw[if_neg hr,if_neg hg1,if_pos hk]
 refine⟨λa v hs=> ?_,h.size,h.os,h.tape,h.output,rfl,λk hk gy=> ?_⟩
 ·have bR:=cc.qV hs;have hu:=hs.2.2;obtain⟨k1,k2⟩:=lV a.block bR (λe=>by rw[e] at hu;exact hu) (λe=>by rw[e] at hu;exact Nat.not_lt_zero _ hu);refine⟨hs.1,?_,by rw[k1];exact hu⟩;have:=hs.2.1;simp only[bT] at this⊢;rw[show(X.sd w r g).w.heap=w.heap from rfl,k2];exact this
 ·exact lV k hk (λe=>by rw[e] at gy;exact gy) (λe=>by rw[e] at gy;exact gy)
theorem z124(n:Nat):ak n n=true:=by simp
theorem Sc{f n:Nat}(e:f≠n):ak f n=false:=by
 cases hh:ak f n with
 |false=>rfl
 |true=>exact absurd (aH hh) e
theorem afn{C:bH}(h0:∀f,ly P tq C f){n T e:TypeId}(nC:AM P n)(L:Lays.n166 P ρ)(X0:Builder.Extra P ρ)(hn:ρ.f 166=n)(hT:ρ.t 72=T)(he:ρ.t 5=e):∀f,ly P tq (C.add n [] (Ue T e)) f:=by
 subst hT he;intro f;by_cases ef:f=n
 ·subst ef;intro l b r b' hc;unfold bH.add at hc;rw[z124] at hc;have hc:Ue (ρ.t 72) (ρ.t 5) (List SV×ae fp) (dk [] l) b (λr b=>some (r,b))=some (r,b'):=hc;have hl:dk [] l=l:=by cases l<;>rfl
  rw[hl] at hc;unfold Ue at hc;obtain⟨x,q,rfl,rfl,NB⟩:=zg4 hc;clear hc;have hc:=NB;clear NB;unfold oZ at hc;split at hc
  case h_2=>cases hc
  rename_i a;obtain⟨s,hc,hs⟩:=zz hc;unfold z24 at hc;cases hd:decide (ByteArray.size x+s.size<=140737488355328) with
  |false=>rw[hd] at hc;cases hc
  |true=>
   rw[hd] at hc;cases hc;have hlen:=of_decide_eq_true hd;refine⟨nC,λX args ql=> ?_⟩;obtain⟨r0,hβ,how,⟨o,ho⟩,hb⟩:=ql.box _ rfl;obtain⟨v,hB,hv⟩:=hb (by simp);have lL:args.size=2:=by rw[ql.size];rfl
   have a0:args[0]? =some (.pointer (some ⟨r0,0,none⟩)):=by rw[bh (by omega)];obtain⟨r1,g1,g2⟩:=ql.rep 0 _ _ rfl (bh (by omega));rw[hβ] at g1;cases g1;rw[((S1 rfl).1 g2).1];rfl
   have a1:args[1]? =some (.string s):=zyk ql (i:=1) rfl hs;rw[Pb lL a0 a1,<-hn];refine(afp L X0 r0 v (ew x) s X.w hB (by rw[Lib.strCells_length];exact hlen)).mono ?_;rintro e w' ⟨rfl,v',nw,Er,qq⟩;have hY:(X.sd w' r0 v'.ownBlock).ow r0= .box 0:=by simp [cc.sd]
   refine⟨X.sd w' r0 v'.ownBlock,rfl,QV how hv Er qq,r0,⟨_,rfl,rfl,λj sv u hj hu=> ?_⟩,λB' ll=> ?_,(λ_ id t p hm=>by simp at hm),rfl⟩
   ·match j with
    |0=>cases hj;cases hu;exact rV
    |1=>cases hj;trivial
    |j+2=>simp at hj
   ·cases ll;refine⟨⟨hY,?_,λ_=>⟨v',by rw[aci];exact nw,λg hg=> ?_⟩⟩,λ_=>hβ⟩
    ·rcases nw.vR with h|h<;>exact⟨_,h⟩
    ·simp only[cc.sd];rw[if_neg (λe=>nw.ne (by rw[hg,e])),if_pos hg]
 ·intro l b r b' hc;unfold bH.add at hc;rw[Sc ef] at hc;exact h0 f l b r b' hc
theorem afm{C:bH}(h0:∀f,ly P tq C f){n T e:TypeId}(nC:AM P n)(L:Lays.n169 P ρ)(X0:Builder.Extra P ρ)(hn:ρ.f 169=n)(hT:ρ.t 72=T)(he:ρ.t 5=e):∀f,ly P tq (C.add n [] (Ud T e)) f:=by
 subst hT he;intro f;by_cases ef:f=n
 ·subst ef;intro l b r b' hc;unfold bH.add at hc;rw[z124] at hc;have hc:Ud (ρ.t 72) (ρ.t 5) (List SV×ae fp) (dk [] l) b (λr b=>some (r,b))=some (r,b'):=hc;have hl:dk [] l=l:=by cases l<;>rfl
  rw[hl] at hc;unfold Ud at hc;obtain⟨x,q,rfl,rfl,NB⟩:=zg4 hc;clear hc;have hc:=NB;clear NB;unfold oY at hc;split at hc
  case h_2=>cases hc
  cases hc;refine⟨nC,λX args ql=> ?_⟩;obtain⟨r0,hβ,how,⟨o,ho⟩,hb⟩:=ql.box _ rfl;obtain⟨v,hB,hv⟩:=hb (by simp);have lL:args.size=1:=by rw[ql.size];rfl
  have a0:args[0]? =some (.pointer (some ⟨r0,0,none⟩)):=by rw[bh (by omega)];obtain⟨r1,g1,g2⟩:=ql.rep 0 _ _ rfl (bh (by omega));rw[hβ] at g1;cases g1;rw[((S1 rfl).1 g2).1];rfl
  rw[aip lL a0,<-hn];refine(aiu L X0 r0 v (x:af).data.toList X.w hB).mono ?_;rintro e w' ⟨rfl,Er⟩;have hY:(X.sd w' r0 none).ow r0= .box 0:=by simp [cc.sd]
  refine⟨X.sd w' r0 none,rfl,QV how hv Er (λk hk=>by cases hk),r0,?_,λB' ll=> ?_,(λ_ id t p hm=>by simp at hm),rfl⟩
  ·exact Hr
  ·cases ll;refine⟨⟨hY,⟨_,bh (Nat.lt_of_lt_of_le hB.lt Er.size)⟩,λhm=>by cases hm⟩,λ_=>hβ⟩
 ·intro l b r b' hc;unfold bH.add at hc;rw[Sc ef] at hc;exact h0 f l b r b' hc
end Go.Ref

namespace Go.Ref
open Go
variable {P:Program} {tq:oK} {R S:Type}
structure dV(P:Program)(tq:oK)(T:bH):Prop where
 mix:P.follows .mixedOrders=true
 nat:T.Nat
 CF:∀f,ly P tq T f
noncomputable abbrev cd (fn:Func):Code:=fn.body.getD .skip
noncomputable abbrev CZ (E:Env) (T:bH) (R:Type) (k:Nat) (fn:Func) (l:List SV) (b:ae fp) (K:List SV->ae fp->ae R):ae R:=se E (T R) k fn (cd fn) l b K
abbrev KF(R:Type):Type:=List SV->ae fp->ae R
abbrev KX(R:Type):Type:=Ex->State->ae R
abbrev og(β:Type):Type 1:=(R:Type)->β->KF R->ae R
def og.Nat{β:Type}(o:og β):Prop:=∀(R S:Type) r (F:KF R) (G:KF S) (K:S->ae R),(∀r b,F r b=(G r b).bind K)->o R r F=(o S r G).bind K
def B3(fn:Func):Bool:= !(fn.name== "runtime.NumGoroutine")&&fn.body.isSome
def tI(x:Int):SV:= .bY (.int .i64) x []
def tU(x:Int):SV:= .bY (.int .u8) x []
def tB(x:Bool):SV:= .bY .bool x []
def tS(x:af):SV:= .bY .str x []
abbrev iA(x:Int):List SV:=[tI x]
abbrev uA(x:Int):List SV:=[tU x]
abbrev bA(x:Bool):List SV:=[tB x]
abbrev sA(x:af):List SV:=[tS x]
abbrev dA(t:Ty)(x:El t):List SV:=[.bY t x []]
abbrev dB(t:Ty)(x:El t):List SV:=[.bY t x [[]]]
abbrev pA(n:Nat)(t:Ty):List SV:=[.ptr n t []]
abbrev oA(t:Ty)(x:El t):ae fp:=some ⟨t,x,[]⟩
abbrev oB(t:Ty)(x:El t):ae fp:=some ⟨t,x,[[]]⟩
def pth:Nat->Nat->List Nat->List Nat
 |0,_,l=>l
 |k+1,n,l=>bif bn n 1 then l else pth k (n/2) (n % 2::l)
noncomputable def sq (f:Func) (p:Nat):Code:=sub (pth 300 p []) (cd f)
noncomputable def lq {R:Type} (E:Env) (T:bH) (kk:Nat) (f:Func) (p k:Nat) (J:KX R) (s:State):ae R:=pu (ev E (T R) kk (sq f p)) (E.lV (xT (sq f p))) (E.rM (xT (sq f p))) k s J
noncomputable def lk {R:Type} (E:Env) (T:bH) (kk:Nat) (f:Func) (p k:Nat) (J:KX R):KX R:=Ov (ev E (T R) kk (sq f p)) (E.lV (xT (sq f p))) (E.rM (xT (sq f p))) k J
noncomputable def sk {R:Type} (E:Env) (T:bH) (kk:Nat) (f:Func) (p:Nat) (K:KX R):KX R:=aaM E (T R) kk (sq f p) K
noncomputable def fk {R:Type} (E:Env) (f:Func) (b:ae fp) (K:KF R):KX R:=aaL E f.results.toList b K
def kp:List (Nat×List Nat)->Nat->List Nat
 | [],_=>[]
 |(a,l)::r,i=>bif ak i a then l else kp r i
theorem dq:(∀{R S:Type} (c:Bool) (x y:ae S) (F:S->ae R),(bif c then x else y).bind F=bif c then x.bind F else y.bind F)/\(∀{R S:Type} (i:Int) (n:Nat) (x:ae S) (F:S->ae R),(zd i n x).bind F=zd i n (x.bind F))/\
 (∀{R S:Type} (F:S->ae R),(.none:ae S).bind F= .none)/\(∀{R S:Type} (x:S) (F:S->ae R),(some x).bind F=F x)/\(∀{R S α β:Type} (f:α->ae S) (g:β->ae S) (e:α⊕β) (F:S->ae R),(aI f g e).bind F=aI (λx=>(f x).bind F) (λx=>(g x).bind F) e)/\
 (∀{R S α:Type} (x:ae α) (f:α->ae S) (F:S->ae R),(x.bind f).bind F=x.bind λy=>(f y).bind F)/\(∀{α β γ:Type} (f:α->γ) (g:β->γ) (x:α),aI f g (.inl x)=f x)/\(∀{α β γ:Type} (f:α->γ) (g:β->γ) (x:β),aI f g (.inr x)=g x):=
 ⟨zgk,acQ,agj,zc,ajJ,afl,λ_ _ _=>rfl,λ_ _ _=>rfl⟩
theorem dV.none(hm:P.follows .mixedOrders=true):dV P tq bH.none:=⟨hm,ajp,agk⟩
theorem dV.add{E:Env}{T:bH}(h:dV P tq T)(hE:bO P E){n:FuncId}{ps:List Ty}{g:Pure}{fn:Func}(qY:P.funcs[n]? =some fn)(hc:B3 fn=true)(hg:g.Nat)
 (h1:∀(l:List SV) (b:ae fp) (r:List SV) (b':ae fp),g (List SV×ae fp) (dk ps l) b (λr b=>some (r,b))=some (r,b')->∃k,se E (T (List SV×ae fp)) k fn (cd fn) l b (λr b=>some (r,b))=some (r,b')):dV P tq (T.add n ps g):=by
 obtain⟨h2,h3⟩:=Bool.and_eq_true_iff.1 hc;refine⟨h.mix,Yp h.nat hg,ail hE h.mix h.nat h.CF qY (by simpa using h2) ?_ h1⟩;cases e:fn.body with
 |none=>rw[e] at h3;cases h3
 |some c=>simp [cd,e]
def xP{β:Type}(f:ae β)(o:og β):Pure:=λR l b K=>pw b (oY l (f.bind λr=>o R r K))
theorem yP(E:Env){T:bH}{n:FuncId}{fn:Func}{β:Type}{f:ae β}{o:og β}(m:(R:Type)->Nat->KF R->ae R)(h0:dV P tq T)(hE:bO P E)(qY:P.funcs[n]? =some fn)
 (h2:∀(R:Type) kk (e:kk=bG) (K:KF R),m R kk K=f.bind λr=>o R r K) (hc:B3 fn=true:=by kernel_rfl) (hp:E.ps=[]:=by exact rfl) (ho:o.Nat:=by exact λ_ _ _ _ _ _ h=>h _ _) (h1:∀(R:Type) k (K:KF R),CZ E T R k fn [] .none K=m R k K:=by intros;kernel_rfl):dV P tq (T.add n [] (xP f o)):=
 h0.add hE qY hc (λR S l b F G K h=>JV (zg5 (Ay λ_=>ho _ _ _ _ _ _ h))) λl b r b' h=>by obtain⟨rfl,h5⟩:=JQ h;obtain⟨h3,h4⟩:=E0 hp h5;exact⟨bG,(h4 _ _ _ _ _ _).trans (((h1 _ _ _).trans (h2 _ _ rfl _)).trans h3)⟩
def mJ(t:Ty){β:Type}(f:El t->ae β)(o:og β):Pure:=λR l b K=>pw b (oZ t l (λx=>(f x).bind λr=>o R r K))
theorem mS(E:Env){T:bH}{n:FuncId}{fn:Func}{t:Ty}{β:Type}{f:El t->ae β}{o:og β}(m:(R:Type)->Nat->El t->KF R->ae R)(h0:dV P tq T)(hE:bO P E)(qY:P.funcs[n]? =some fn)
 (h2:∀(R:Type) kk (e:kk=bG) x (K:KF R),m R kk x K=(f x).bind λr=>o R r K) (hc:B3 fn=true:=by kernel_rfl) (hp:E.ps=[t]:=by exact rfl) (ho:o.Nat:=by exact λ_ _ _ _ _ _ h=>h _ _) (h1:∀(R:Type) k x (K:KF R),CZ E T R k fn [.bY t x []] .none K=m R k x K:=by intros;kernel_rfl):dV P tq (T.add n [t] (mJ t f o)):=
 h0.add hE qY hc (λR S l b F G K h=>JV (zg6 λ_=>Ay λ_=>ho _ _ _ _ _ _ h)) λl b r b' h=>by obtain⟨rfl,h5⟩:=JQ h;obtain⟨x,h3,h4⟩:=OA hp h5;exact⟨bG,(h4 _ _ _ _ _ _).trans (((h1 _ _ x _).trans (h2 _ _ rfl x _)).trans h3)⟩
def oc(t u:Ty){β:Type}(f:El t->El u->ae β)(o:og β):Pure:=λR l b K=>pw b (ox t u l (λx y=>(f x y).bind λr=>o R r K))
theorem oh(E:Env){T:bH}{n:FuncId}{fn:Func}{t u:Ty}{β:Type}{f:El t->El u->ae β}{o:og β}(m:(R:Type)->Nat->El t->El u->KF R->ae R)(h0:dV P tq T)(hE:bO P E)(qY:P.funcs[n]? =some fn)
 (h2:∀(R:Type) kk (e:kk=bG) x y (K:KF R),m R kk x y K=(f x y).bind λr=>o R r K) (hc:B3 fn=true:=by kernel_rfl) (hp:E.ps=[t,u]:=by exact rfl) (ho:o.Nat:=by exact λ_ _ _ _ _ _ h=>h _ _) (h1:∀(R:Type) k x y (K:KF R),CZ E T R k fn [.bY t x [],.bY u y []] .none K=m R k x y K:=by intros;kernel_rfl):dV P tq (T.add n [t,u] (oc t u f o)):=
 h0.add hE qY hc (λR S l b F G K h=>JV (zg7 λ_ _=>Ay λ_=>ho _ _ _ _ _ _ h)) λl b r b' h=>by obtain⟨rfl,h5⟩:=JQ h;obtain⟨x,y,h3,h4⟩:=tm hp h5;exact⟨bG,(h4 _ _ _ _ _ _).trans (((h1 _ _ x y _).trans (h2 _ _ rfl x y _)).trans h3)⟩
def vq(t u v:Ty){β:Type}(f:El t->El u->El v->ae β)(o:og β):Pure:=λR l b K=>pw b (ud t u v l (λx y a=>(f x y a).bind λr=>o R r K))
theorem wH(E:Env){T:bH}{n:FuncId}{fn:Func}{t u v:Ty}{β:Type}{f:El t->El u->El v->ae β}{o:og β}(m:(R:Type)->Nat->El t->El u->El v->KF R->ae R)(h0:dV P tq T)(hE:bO P E)(qY:P.funcs[n]? =some fn)
 (h2:∀(R:Type) kk (e:kk=bG) x y a (K:KF R),m R kk x y a K=(f x y a).bind λr=>o R r K) (hc:B3 fn=true:=by kernel_rfl) (hp:E.ps=[t,u,v]:=by exact rfl) (ho:o.Nat:=by exact λ_ _ _ _ _ _ h=>h _ _) (h1:∀(R:Type) k x y a (K:KF R),CZ E T R k fn [.bY t x [],.bY u y [],.bY v a []] .none K=m R k x y a K:=by intros;kernel_rfl):dV P tq (T.add n [t,u,v] (vq t u v f o)):=
 h0.add hE qY hc (λR S l b F G K h=>JV (afg λ_ _ _=>Ay λ_=>ho _ _ _ _ _ _ h)) λl b r b' h=>by obtain⟨rfl,h5⟩:=JQ h;obtain⟨x,y,a,h3,h4⟩:=abA hp h5;exact⟨bG,(h4 _ _ _ _ _ _).trans (((h1 _ _ x y a _).trans (h2 _ _ rfl x y a _)).trans h3)⟩
def U3(t u v w:Ty){β:Type}(f:El t->El u->El v->El w->ae β)(o:og β):Pure:=λR l b K=>pw b (ue t u v w l (λx y a b=>(f x y a b).bind λr=>o R r K))
theorem st4(E:Env){T:bH}{n:FuncId}{fn:Func}{t u v w:Ty}{β:Type}{f:El t->El u->El v->El w->ae β}{o:og β}(m:(R:Type)->Nat->El t->El u->El v->El w->KF R->ae R)(h0:dV P tq T)(hE:bO P E)(qY:P.funcs[n]? =some fn)
 (h2:∀(R:Type) kk (e:kk=bG) x y a b (K:KF R),m R kk x y a b K=(f x y a b).bind λr=>o R r K) (hc:B3 fn=true:=by kernel_rfl) (hp:E.ps=[t,u,v,w]:=by exact rfl) (ho:o.Nat:=by exact λ_ _ _ _ _ _ h=>h _ _) (h1:∀(R:Type) k x y a b (K:KF R),CZ E T R k fn [.bY t x [],.bY u y [],.bY v a [],.bY w b []] .none K=m R k x y a b K:=by intros;kernel_rfl):dV P tq (T.add n [t,u,v,w] (U3 t u v w f o)):=
 h0.add hE qY hc (λR S l b F G K h=>JV (afh λ_ _ _ _=>Ay λ_=>ho _ _ _ _ _ _ h)) λl b r b' h=>by obtain⟨rfl,h5⟩:=JQ h;obtain⟨x,y,a,b,h3,h4⟩:=abB hp h5;exact⟨bG,(h4 _ _ _ _ _ _).trans (((h1 _ _ x y a b _).trans (h2 _ _ rfl x y a b _)).trans h3)⟩
def pb0(T0:Ty)(wn:List (List Nat)){β:Type}(f:El T0->ae β)(o:og β):Pure:=λR l b K=>sS T0 wn l b λz l=>oY l ((f z).bind λr=>o R r K)
theorem sb0(E:Env){T:bH}{n:FuncId}{fn:Func}{T0:Ty}{wn:List (List Nat)}{β:Type}{f:El T0->ae β}{o:og β}(m:(R:Type)->Nat->El T0->KF R->ae R)(h0:dV P tq T)(hE:bO P E)(qY:P.funcs[n]? =some fn)
 (h2:∀(R:Type) kk (e:kk=bG) z (K:KF R),m R kk z K=(f z).bind λr=>o R r K) (hc:B3 fn=true:=by kernel_rfl) (hp:E.ps=[.unit]:=by exact rfl) (ho:o.Nat:=by exact λ_ _ _ _ _ _ h=>h _ _) (h1:∀(R:Type) k z (K:KF R),CZ E T R k fn [.ptr 0 T0 []] (some ⟨T0,z,wn⟩) K=m R k z K:=by intros;kernel_rfl):dV P tq (T.add n [.unit] (pb0 T0 wn f o)):=
 h0.add hE qY hc (λR S l b F G K h=>z93 λ_ _=>zg5 (Ay λ_=>ho _ _ _ _ _ _ h)) λl b r b' h=>by unfold pb0 at h;obtain⟨z,q,rfl,rfl,h5⟩:=IM h;obtain⟨h3,h4⟩:=OB hp h5;exact⟨bG,(h4 _ _ _ _ _ _).trans (((h1 _ _ z _).trans (h2 _ _ rfl z _)).trans h3)⟩
def U1(T0:Ty)(wn:List (List Nat))(t:Ty){β:Type}(f:El T0->El t->ae β)(o:og β):Pure:=λR l b K=>sS T0 wn l b λz l=>oZ t l (λx=>(f z x).bind λr=>o R r K)
theorem sb1(E:Env){T:bH}{n:FuncId}{fn:Func}{T0:Ty}{wn:List (List Nat)}{t:Ty}{β:Type}{f:El T0->El t->ae β}{o:og β}(m:(R:Type)->Nat->El T0->El t->KF R->ae R)(h0:dV P tq T)(hE:bO P E)(qY:P.funcs[n]? =some fn)
 (h2:∀(R:Type) kk (e:kk=bG) z x (K:KF R),m R kk z x K=(f z x).bind λr=>o R r K) (hc:B3 fn=true:=by kernel_rfl) (hp:E.ps=[.unit,t]:=by exact rfl) (ho:o.Nat:=by exact λ_ _ _ _ _ _ h=>h _ _) (h1:∀(R:Type) k z x (K:KF R),CZ E T R k fn [.ptr 0 T0 [],.bY t x []] (some ⟨T0,z,wn⟩) K=m R k z x K:=by intros;kernel_rfl):dV P tq (T.add n [.unit,t] (U1 T0 wn t f o)):=
 h0.add hE qY hc (λR S l b F G K h=>z93 λ_ _=>zg6 λ_=>Ay λ_=>ho _ _ _ _ _ _ h) λl b r b' h=>by unfold U1 at h;obtain⟨z,q,rfl,rfl,h5⟩:=IM h;obtain⟨x,h3,h4⟩:=OC hp h5;exact⟨bG,(h4 _ _ _ _ _ _).trans (((h1 _ _ z x _).trans (h2 _ _ rfl z x _)).trans h3)⟩
def pb2(T0:Ty)(wn:List (List Nat))(t u:Ty){β:Type}(f:El T0->El t->El u->ae β)(o:og β):Pure:=λR l b K=>sS T0 wn l b λz l=>ox t u l (λx y=>(f z x y).bind λr=>o R r K)
theorem sb2(E:Env){T:bH}{n:FuncId}{fn:Func}{T0:Ty}{wn:List (List Nat)}{t u:Ty}{β:Type}{f:El T0->El t->El u->ae β}{o:og β}(m:(R:Type)->Nat->El T0->El t->El u->KF R->ae R)(h0:dV P tq T)(hE:bO P E)(qY:P.funcs[n]? =some fn)
 (h2:∀(R:Type) kk (e:kk=bG) z x y (K:KF R),m R kk z x y K=(f z x y).bind λr=>o R r K) (hc:B3 fn=true:=by kernel_rfl) (hp:E.ps=[.unit,t,u]:=by exact rfl) (ho:o.Nat:=by exact λ_ _ _ _ _ _ h=>h _ _) (h1:∀(R:Type) k z x y (K:KF R),CZ E T R k fn [.ptr 0 T0 [],.bY t x [],.bY u y []] (some ⟨T0,z,wn⟩) K=m R k z x y K:=by intros;kernel_rfl):dV P tq (T.add n [.unit,t,u] (pb2 T0 wn t u f o)):=
 h0.add hE qY hc (λR S l b F G K h=>z93 λ_ _=>zg7 λ_ _=>Ay λ_=>ho _ _ _ _ _ _ h) λl b r b' h=>by unfold pb2 at h;obtain⟨z,q,rfl,rfl,h5⟩:=IM h;obtain⟨x,y,h3,h4⟩:=OD hp h5;exact⟨bG,(h4 _ _ _ _ _ _).trans (((h1 _ _ z x y _).trans (h2 _ _ rfl z x y _)).trans h3)⟩
def pz(t pt bt:Ty)(wn:List (List Nat)){β:Type}(f:El t->El bt->ae β)(o:og β):Pure:=λR l b K=>uc t pt bt wn l b λx y=>(f x y).bind λr=>o R r K
theorem sz(E:Env){T:bH}{n:FuncId}{fn:Func}{t pt bt:Ty}{wn:List (List Nat)}{β:Type}{f:El t->El bt->ae β}{o:og β}(m:(R:Type)->Nat->El t->El bt->KF R->ae R)(h0:dV P tq T)(hE:bO P E)(qY:P.funcs[n]? =some fn)
 (h2:∀(R:Type) kk (e:kk=bG) x y (K:KF R),m R kk x y K=(f x y).bind λr=>o R r K) (hc:B3 fn=true:=by kernel_rfl) (hp:E.ps=[t,.unit]:=by exact rfl) (ho:o.Nat:=by exact λ_ _ _ _ _ _ h=>h _ _) (h1:∀(R:Type) k x y (K:KF R),CZ E T R k fn [.bY t x [],.ptr 0 pt []] (some ⟨bt,y,wn⟩) K=m R k x y K:=by intros;kernel_rfl):dV P tq (T.add n [t,.unit] (pz t pt bt wn f o)):=
 h0.add hE qY hc (λR S l b F G K h=>aff λ_ _=>Ay λ_=>ho _ _ _ _ _ _ h) λl b r b' h=>by obtain⟨x,y,rfl,h3,h4⟩:=OG hp h;exact⟨bG,(h4 _ _ _ _ _ _).trans (((h1 _ _ x y _).trans (h2 _ _ rfl x y _)).trans h3)⟩
def pv(t u v w:Ty){β:Type}(f:El t->El u->El v->El w->ae β)(o:og β):Pure:=λR l b K=>pw b (LL t u v w l (λx y a b=>(f x y a b).bind λr=>o R r K))
theorem sv(E:Env){T:bH}{n:FuncId}{fn:Func}{t u v w:Ty}{β:Type}{f:El t->El u->El v->El w->ae β}{o:og β}(m:(R:Type)->Nat->El t->El u->El v->El w->KF R->ae R)(h0:dV P tq T)(hE:bO P E)(qY:P.funcs[n]? =some fn)
 (h2:∀(R:Type) kk (e:kk=bG) x y a b (K:KF R),m R kk x y a b K=(f x y a b).bind λr=>o R r K) (hc:B3 fn=true:=by kernel_rfl) (hp:E.ps=[t,u,.unit,.unit]:=by exact rfl) (ho:o.Nat:=by exact λ_ _ _ _ _ _ h=>h _ _) (h1:∀(R:Type) k x y a b (K:KF R),CZ E T R k fn [.bY t x [],.bY u y [],.view v a,.view w b] .none K=m R k x y a b K:=by intros;kernel_rfl):dV P tq (T.add n [t,u,.unit,.unit] (pv t u v w f o)):=
 h0.add hE qY hc (λR S l b F G K h=>JV (ac7 λ_ _ _ _=>Ay λ_=>ho _ _ _ _ _ _ h)) λl b r b' h=>by unfold pv at h;obtain⟨rfl,h5⟩:=JQ h;obtain⟨x,y,a,b,h3,h4⟩:=OE hp h5;exact⟨bG,(h4 _ _ _ _ _ _).trans (((h1 _ _ x y a b _).trans (h2 _ _ rfl x y a b _)).trans h3)⟩
end Go.Ref

namespace Go.Ref
open Go
variable {P:Program} {tq:oK}
end Go.Ref
namespace eD
open Go Go.Ref
end eD

namespace eD
open Go.IntKind renaming wrap->zW,i64->zI,u8->zU
open Go Go.Ref
abbrev zQ:Type:=(af×Nat)
abbrev sC:Type:=(Int×Int×Int)
abbrev Ni:Type:=(af×Int)
abbrev Zt3:Type:=(Int×af)
abbrev H3:Type:=(List (List Int))
abbrev sc:Type:=(af×Bool)
abbrev dQ:Type:=(Int×Int×Unit)
abbrev Zt7:Type:=(Int×Bool×Int)
abbrev Nj:Type:=(List (Int×Bool))
abbrev KI:Type:=(af×Int×Int)
abbrev BU:Type:=(af×af)
abbrev eQ:Type:=(Int×af×Unit)
abbrev tJ:Type:=(List sc)
abbrev gW:Type:=(af×af×Unit)
abbrev cN:Type:=(List eQ)
abbrev bP:Type:=(Int×Bool×(List Int)×Unit)
abbrev dR:Type:=(Int×Int×Int×Int×Int×Unit)
abbrev xx:Type:=(Int×Int×af×Int×Unit)
abbrev dD:Type:=(List gW)
abbrev Ei:Type:=(Int×bP)
abbrev sR:Type:=(List dR)
abbrev nA:Type:=(List xx)
abbrev tK:Type:=(cN×Int×Int)
abbrev cC:Type:=(af×cN×Unit)
abbrev bC:Type:=(Int×Int×sR×Unit)
abbrev BV:Type:=(List bC)
abbrev dm:Type:=(Int×Int×Int×af×dD×Unit)
abbrev BW:Type:=(cN×Int×Int×cN)
abbrev fO:Type:=(List dm)
abbrev zR:Type:=(cC×dQ×cC)
abbrev dF:Type:=(dD×fO×Unit)
abbrev zS:Type:=(af×Int×cC×dQ×cC)
abbrev cO:Type:=(bC×dF×(List Int)×cN×Unit)
abbrev zV:Type:=(List cO)
abbrev vN:Type:=(dF×bC×bC)
abbrev cU:Type:=(zV×Int×Unit)
abbrev vO:Type:=(Int×Int×Int×dF×bC×bC)
def XV{R:Type}(a:af)(b:Int)(c:af->Int->ae R):ae R:=
 c a b
def XW{R:Type}(a:af)(b:Int)(c:af->Int->ae R)(d:af->ae R):ae R:=
 bif 0<(a.size:Int) then zd (zW zI ((a.size:Int)-1)) a.size (bif ze a (zW zI ((a.size:Int)-(1:Int))).toNat=b then bif 0<=zW zI ((a.size:Int)-1) then bif zW zI ((a.size:Int)-1)<=(a.size:Int) then c (a.extract 0 (zW zI ((a.size:Int)-(1:Int))).toNat) b else none else none else d a) else d a
def XX{R:Type}(a:af)(b:af->ae R):ae R:=
 b a
def Lr:Nat->af->Int->ae af
 |0,_,_=>none
 |k+1,v0,v1=>XW v0 v1 (λa0 a1=>Lr k a0 a1) (λa0=>some a0)
def DH(a:af)(b:Int):ae af:=
 XV a b (λa0 a1=>(Lr bG a0 a1).bind λe=>XX e (λa0=>some a0))
def XR{R:Type}(a:af)(b:Int)(c:af->Int->ae R):ae R:=
 c a b
def XS{R:Type}(a:af)(b:Int)(c:af->Int->ae R)(d:af->ae R):ae R:=
 bif 0<(a.size:Int) then zd 0 a.size (bif ze a ((0:Int)).toNat=b then bif 1<=(a.size:Int) then c (a.extract ((1:Int)).toNat a.size) b else none else d a) else d a
def XT{R:Type}(a:af)(b:af->ae R):ae R:=
 b a
def Lq:Nat->af->Int->ae af
 |0,_,_=>none
 |k+1,v0,v1=>XS v0 v1 (λa0 a1=>Lq k a0 a1) (λa0=>some a0)
def DG(a:af)(b:Int):ae af:=
 XR a b (λa0 a1=>(Lq bG a0 a1).bind λe=>XT e (λa0=>some a0))
def XP{R:Type}(a b:af)(c:af->ae R):ae R:=
 bif a=bs [] then c a else bif b=bs [] then c a else bif(b.size:Int)=1 then zd 0 b.size (bif ze b ((0:Int)).toNat<128 then zd 0 b.size ((DH a (ze b ((0:Int)).toNat)).bind λr1=>zd 0 b.size ((DG r1 (ze b ((0:Int)).toNat)).bind λr2=>c r2)) else none) else none
def BJ(a b:af):ae af:=
 XP a b (λa0=>some a0)
def Zq{R:Type}(a:af)(b:zQ->ae R):ae R:=
 b (a,0)
def Zr{R:Type}(a:zQ)(b:Bool->ae R)(c:zQ->ae R)(d:ae R):ae R:=
 bif a.2<a.1.size then bif(((dw a.1 a.2).1:Nat):Int)<48 then b false else bif 57<(((dw a.1 a.2).1:Nat):Int) then b false else c (a.1,a.2+(dw a.1 a.2).2) else d
def Jk{R:Type}(a:Bool)(b:Bool->ae R):ae R:=
 b a
def Jl{R:Type}(a:Bool->ae R):ae R:=
 a true
def LG:Nat->zQ->ae (Sum Bool Unit)
 |0,_=>none
 |k+1,v0=>Zr v0 (λa0=>some (.inl a0)) (λa0=>LG k a0) (some (.inr ()))
def FI(a:af):ae Bool:=
 Zq a (λa0=>(LG bG a0).bind λe=>aI (λ(we:Bool)=>Jk we (λa0=>some a0)) (λ(we:Unit)=>Jl (λa0=>some a0)) e)
def Zt{R:Type}(a:af)(b:Int->Bool->ae R)(c:Int->zQ->ae R):ae R:=
 bif a=bs [] then b 0 false else bif 18<(a.size:Int) then b 0 false else(FI a).bind λr1=>bif !r1 then b 0 false else c 0 (a,0)
def Zu{R:Type}(a:Int)(b:zQ)(c:Int->zQ->ae R)(d:Int->ae R):ae R:=
 bif b.2<b.1.size then c (zW zI (zW zI (10*a)+zW zI (IntKind.i32.wrap ((((dw b.1 b.2).1:Nat):Int)-48)))) (b.1,b.2+(dw b.1 b.2).2) else d a
def Jm{R:Type}(a:Int)(b:Int->Bool->ae R):ae R:=
 b a true
def LH:Nat->Int->zQ->ae Int
 |0,_,_=>none
 |k+1,v0,v1=>Zu v0 v1 (λa0 a1=>LH k a0 a1) (λa0=>some a0)
def FJ(a:af):ae (Int×Bool):=
 Zt a (λa0 a1=>some (a0,a1)) (λa0 a1=>(LH bG a0 a1).bind λe=>Jm e (λa0 a1=>some (a0,a1)))
def Zx{R:Type}(a b:Int)(c:af->Bool->ae R)(d:Int->Nat->Int->Nat->(List Int)->ae R):ae R:=
 bif a<0 then c (bs []) false else bif b<1 then c (bs []) false else bif 18<b then c (bs []) false else bif b=b then bif 0<=b then bif b*1<=140737488355328 then d a b.toNat (zW zI (b-1)) b.toNat (aw b.toNat 0) else none else none else none
def T3{R:Type}(a:Int)(b:Nat)(c:Int)(d:Nat)(e:(List Int))(f:Int->Nat->Int->Nat->(List Int)->ae R)(g:Int->Nat->Nat->(List Int)->ae R):ae R:=
 bif 0<=c then zd c b (bif bn (c.toNat+1) (ag e) then f (zW zI (dc a 10)) b (zW zI (c-1)) d (b8 e c.toNat (zW zU (zW zI (48+cB a 10)))) else none) else g a b d e
def Zy{R:Type}(a:Int)(b c:Nat)(d:(List Int))(e:af->Bool->ae R):ae R:=
 bif 0<a then e (bs []) false else bif ak b (ag d) then e (strOf d) true else none
def Kq:Nat->Int->Nat->Int->Nat->(List Int)->ae (Int×Nat×Nat×(List Int))
 |0,_,_,_,_,_=>none
 |k+1,v0,v1,v2,v3,v4=>T3 v0 v1 v2 v3 v4 (λa0 a1 a2 a3 a4=>Kq k a0 a1 a2 a3 a4) (λa0 a1 a2 a3=>some (a0,a1,a2,a3))
def L6(a b:Int):ae sc:=
 Zx a b (λa0 a1=>some (a0,a1)) (λa0 a1 a2 a3 a4=>(Kq bG a0 a1 a2 a3 a4).bind λe=>Zy e.1 e.2.1 e.2.2.1 e.2.2.2 (λa0 a1=>some (a0,a1)))
def Zv{R:Type}(a:af)(b:Int)(c:af->Bool->ae R):ae R:=
 bif a=bs [] then c (bs []) false else bif 999<(a.size:Int) then c (bs []) false else(FI a).bind λr1=>bif !r1 then c (bs []) false else bif b<1 then c (bs []) false else bif 999<b then c (bs []) false else bif(a.size:Int)<=b then(strings_Repeat (bs [48]) (zW zI (b-(a.size:Int)))).bind λr2=>bif r2.size+a.size<=9223372036854775807 then c (r2++a) true else none else bif 0<=zW zI ((a.size:Int)-b) then bif zW zI ((a.size:Int)-b)<=(a.size:Int) then(BJ (a.extract 0 (zW zI ((a.size:Int)-b)).toNat) (bs [48])).bind λr3=>bif !decide (r3=bs []) then c (bs []) false else bif 0<=zW zI ((a.size:Int)-b) then bif zW zI ((a.size:Int)-b)<=(a.size:Int) then c (a.extract (zW zI ((a.size:Int)-b)).toNat a.size) true else none else none else none else none
def L5(a:af)(b:Int):ae sc:=
 Zv a b (λa0 a1=>some (a0,a1))
def yc{R:Type}(a:Int)(b:Int->ae R):ae R:=
 bif a<1 then b 0 else b (zW zI (zW zI (dc a 2)+cB a 2))
def Q2(a:Int):ae Int:=
 yc a (λa0=>some a0)
def xY{R:Type}(a:af)(b:Int)(c:af->Int->Int->ae R)(d:af->Int->(List Int)->Int->Int->ae R):ae R:=
 bif b<0 then c (bs []) 1 0 else bif 999<b then c (bs []) 1 0 else(Q2 b).bind λr1=>bif(a.size:Int)<r1 then c (bs []) 2 (a.size:Int) else bif 0<=zW zI (b+1) then bif zW zI (b+1)*1<=140737488355328 then(Q2 b).bind λr2=>d a b [] r2 0 else none else none
def vC{R:Type}(a:af)(b:Int)(c:(List Int))(d e:Int)(f:Int->af->Int->Int->(List Int)->ae R)(g:af->Int->(List Int)->Int->Int->ae R)(h:Int->(List Int)->ae R):ae R:=
 bif e<d then zd e a.size (zd e a.size (bif e=0 then bif !decide (cB b 2=0) then bif !decide (aX (ze a e.toNat) (2^min ((4:Int)).toNat 8)=0) then f b (bs []) 4 0 c else bif 9<aX (ze a e.toNat) (2^min ((4:Int)).toNat 8) then f b (bs []) 3 e c else bif 9<dv .and .u8 (ze a e.toNat) 15 then f b (bs []) 3 e c else bif(ag c+ag ([(zW zU ((48:Int)+aX (ze a e.toNat) (2^min ((4:Int)).toNat 8))),(zW zU ((48:Int)+dv .and .u8 (ze a e.toNat) (15:Int)))]:List Int))*1<=140737488355328 then g a b (c++([(zW zU (48+aX (ze a e.toNat) (2^min ((4:Int)).toNat 8))),(zW zU (48+dv .and .u8 (ze a e.toNat) 15))]:List Int)) d (zW zI (e+1)) else none else bif 9<aX (ze a e.toNat) (2^min ((4:Int)).toNat 8) then f b (bs []) 3 e c else bif 9<dv .and .u8 (ze a e.toNat) 15 then f b (bs []) 3 e c else bif(ag c+ag ([(zW zU ((48:Int)+aX (ze a e.toNat) (2^min ((4:Int)).toNat 8))),(zW zU ((48:Int)+dv .and .u8 (ze a e.toNat) (15:Int)))]:List Int))*1<=140737488355328 then g a b (c++([(zW zU (48+aX (ze a e.toNat) (2^min ((4:Int)).toNat 8))),(zW zU (48+dv .and .u8 (ze a e.toNat) 15))]:List Int)) d (zW zI (e+1)) else none else bif 9<aX (ze a e.toNat) (2^min ((4:Int)).toNat 8) then f b (bs []) 3 e c else bif 9<dv .and .u8 (ze a e.toNat) 15 then f b (bs []) 3 e c else bif(ag c+ag ([(zW zU ((48:Int)+aX (ze a e.toNat) (2^min ((4:Int)).toNat 8))),(zW zU ((48:Int)+dv .and .u8 (ze a e.toNat) (15:Int)))]:List Int))*1<=140737488355328 then g a b (c++([(zW zU (48+aX (ze a e.toNat) (2^min ((4:Int)).toNat 8))),(zW zU (48+dv .and .u8 (ze a e.toNat) 15))]:List Int)) d (zW zI (e+1)) else none)) else h b c
def Bc{R:Type}(a:Int)(b:af)(c d:Int)(e:(List Int))(f:af->Int->Int->ae R):ae R:=
 f b c d
def xZ{R:Type}(a:Int)(b:(List Int))(c:af->Int->Int->ae R):ae R:=
 bif 0<=cB a 2 then bif cB a 2<=(((ag b):Nat):Int) then c (strOf (bu (cB a (2:Int)).toNat (aJ (ag b) b))) 0 0 else none else none
def rG:Nat->af->Int->(List Int)->Int->Int->ae (Sum (Int×af×Int×Int×(List Int)) (Int×(List Int)))
 |0,_,_,_,_,_=>none
 |k+1,v0,v1,v2,v3,v4=>vC v0 v1 v2 v3 v4 (λa0 a1 a2 a3 a4=>some (.inl (a0,a1,a2,a3,a4))) (λa0 a1 a2 a3 a4=>rG k a0 a1 a2 a3 a4) (λa0 a1=>some (.inr (a0,a1)))
def Q0(a:af)(b:Int):ae KI:=
 xY a b (λa0 a1 a2=>some (a0,a1,a2)) (λa0 a1 a2 a3 a4=>(rG bG a0 a1 a2 a3 a4).bind λe=>aI (λ(we:(Int×af×Int×Int×(List Int)))=>Bc we.1 we.2.1 we.2.2.1 we.2.2.2.1 we.2.2.2.2 (λa0 a1 a2=>some (a0,a1,a2))) (λ(we:(Int×(List Int)))=>xZ we.1 we.2 (λa0 a1 a2=>some (a0,a1,a2))) e)
def tX{R:Type}(a:af)(b:af->Bool->ae R)(c:af->(List Int)->Int->ae R):ae R:=
 bif 999<(a.size:Int) then b (bs []) false else(FI a).bind λr1=>bif !r1 then b (bs []) false else bif !decide (cB (a.size:Int) 2=0) then bif(bs [48]).size+a.size<=9223372036854775807 then bif 0<=zW zI (dc ((bs [48]++a).size:Int) 2) then bif zW zI (dc ((bs [48]++a).size:Int) 2)*1<=140737488355328 then c (bs [48]++a) [] 0 else none else none else none else bif 0<=zW zI (dc (a.size:Int) 2) then bif zW zI (dc (a.size:Int) 2)*1<=140737488355328 then c a [] 0 else none else none
theorem acZ{R S:Type}(F:R->ae S)(a)(b)(c):(tX a b c).bind F=tX a (λa0 a1=>(b a0 a1).bind F) (λa0 a1 a2=>(c a0 a1 a2).bind F):=by simp only[tX,dq]
def vE{R:Type}(a:af)(b:(List Int))(c:Int)(d:af->(List Int)->Int->ae R)(e:(List Int)->ae R):ae R:=
 bif c<(a.size:Int) then zd c a.size (zd (zW zI (c+1)) a.size (bif(ag b+ag ([(dv .or .u8 (zW zU (zW zU (ze a c.toNat-(48:Int))*2^min ((4:Int)).toNat 8)) (zW zU (ze a (zW zI (c+(1:Int))).toNat-(48:Int))))]:List Int))*1<=140737488355328 then d a (b++([(dv .or .u8 (zW zU (zW zU (ze a c.toNat-48)*2^min ((4:Int)).toNat 8)) (zW zU (ze a (zW zI (c+(1:Int))).toNat-48)))]:List Int)) (zW zI (c+2)) else none)) else e b
def Bq{R:Type}(a:(List Int))(b:af->Bool->ae R):ae R:=
 b (strOf a) true
def sN:Nat->af->(List Int)->Int->ae (List Int)
 |0,_,_,_=>none
 |k+1,v0,v1,v2=>vE v0 v1 v2 (λa0 a1 a2=>sN k a0 a1 a2) (λa0=>some a0)
def Q1(a:af):ae sc:=
 tX a (λa0 a1=>some (a0,a1)) (λa0 a1 a2=>(sN bG a0 a1 a2).bind λe=>Bq e (λa0 a1=>some (a0,a1)))
def yi{R:Type}(a:Int)(b:Int->ae R):ae R:=
 bif a<0 then b 0 else bif 65535<a then b 0 else bif 255<a then b (zW zI (zW zI (zW zI (0+1)+1)+1)) else bif 127<a then b (zW zI (zW zI (0+1)+1)) else b (zW zI (0+1))
def Q4(a:Int):ae Int:=
 yi a (λa0=>some a0)
def tY{R:Type}(a:af)(b:Int)(c:Int->Int->Int->ae R)(d:af->Int->Int->Int->Int->Int->ae R):ae R:=
 bif b<0 then c 0 0 1 else bif(a.size:Int)<b then c 0 0 1 else bif b=(a.size:Int) then c 0 0 2 else zd b a.size (bif 127<zW zI (ze a b.toNat) then bif zW zI (ze a b.toNat)=128 then c 0 0 14 else bif 130<zW zI (ze a b.toNat) then c 0 0 14 else bif zW zI ((a.size:Int)-zW zI (b+1))<zW zI (zW zI (ze a b.toNat)-128) then c 0 0 2 else d a (zW zI (b+1)) 0 (zW zI (zW zI (ze a b.toNat)-128)) (zW zI (zW zI (ze a b.toNat)-128)) 0 else bif zW zI ((a.size:Int)-zW zI (b+1))<0 then c 0 0 2 else d a (zW zI (b+1)) (zW zI (ze a b.toNat)) 0 0 0)
theorem ac0{R S:Type}(F:R->ae S)(a)(b)(c)(d):(tY a b c d).bind F=tY a b (λa0 a1 a2=>(c a0 a1 a2).bind F) (λa0 a1 a2 a3 a4 a5=>(d a0 a1 a2 a3 a4 a5).bind F):=by simp only[tY,dq]
def tZ{R:Type}(a:af)(b c d e f:Int)(g:af->Int->Int->Int->Int->Int->ae R)(h:Int->Int->Int->ae R):ae R:=
 bif f<e then zd (zW zI (b+f)) a.size (g a b (dv .or .i64 (zW zI (c*2^min ((8:Int)).toNat 64)) (zW zI (ze a (zW zI (b+f)).toNat))) d e (zW zI (f+1))) else h b c d
def ua{R:Type}(a b c:Int)(d:Int->Int->Int->ae R):ae R:=
 (Q4 b).bind λr1=>bif !decide (r1=zW zI (c+1)) then d 0 0 14 else d b (zW zI (a+c)) 0
def nW:Nat->af->Int->Int->Int->Int->Int->ae sC
 |0,_,_,_,_,_,_=>none
 |k+1,v0,v1,v2,v3,v4,v5=>tZ v0 v1 v2 v3 v4 v5 (λa0 a1 a2 a3 a4 a5=>nW k a0 a1 a2 a3 a4 a5) (λa0 a1 a2=>some (a0,a1,a2))
def Q3(a:af)(b:Int):ae sC:=
 tY a b (λa0 a1 a2=>some (a0,a1,a2)) (λa0 a1 a2 a3 a4 a5=>(nW bG a0 a1 a2 a3 a4 a5).bind λe=>ua e.1 e.2.1 e.2.2 (λa0 a1 a2=>some (a0,a1,a2)))
abbrev zB0:ByteArray:=bs ([0,1,2,2,3,3,3,3,4,4,4,4,4,4,4,4]++List.replicate 16 5++List.replicate 32 6++List.replicate 64 7++List.replicate 128 8)
def zu5{R:Type}(a:Int)(b:Int->ae R):ae R:=
 bif 4294967296<=a then bif 65536<=aX a (2^min ((32:Int)).toNat 64) then bif 256<=aX (aX a (2^min ((32:Int)).toNat 64)) (2^min ((16:Int)).toNat 64) then zd (zW zU (aX (aX (aX a (2^min ((32:Int)).toNat 64)) (2^min ((16:Int)).toNat 64)) (2^min ((8:Int)).toNat 64))) zB0.size (b (zW zI (zW zI (zW zI (32+16)+8)+zW zI (ze zB0 (zW zU (aX (aX (aX a (2^min ((32:Int)).toNat 64)) (2^min ((16:Int)).toNat 64)) (2^min ((8:Int)).toNat 64))).toNat)))) else zd (zW zU (aX (aX a (2^min ((32:Int)).toNat 64)) (2^min ((16:Int)).toNat 64))) zB0.size (b (zW zI (zW zI (32+16)+zW zI (ze zB0 (zW zU (aX (aX a (2^min ((32:Int)).toNat 64)) (2^min ((16:Int)).toNat 64))).toNat)))) else bif 256<=aX a (2^min ((32:Int)).toNat 64) then zd (zW zU (aX (aX a (2^min ((32:Int)).toNat 64)) (2^min ((8:Int)).toNat 64))) zB0.size (b (zW zI (zW zI (32+8)+zW zI (ze zB0 (zW zU (aX (aX a (2^min ((32:Int)).toNat 64)) (2^min ((8:Int)).toNat 64))).toNat)))) else zd (zW zU (aX a (2^min ((32:Int)).toNat 64))) zB0.size (b (zW zI (32+zW zI (ze zB0 (zW zU (aX a (2^min ((32:Int)).toNat 64))).toNat)))) else bif 65536<=a then bif 256<=aX a (2^min ((16:Int)).toNat 64) then zd (zW zU (aX (aX a (2^min ((16:Int)).toNat 64)) (2^min ((8:Int)).toNat 64))) zB0.size (b (zW zI (zW zI (zW zI (0+16)+8)+zW zI (ze zB0 (zW zU (aX (aX a (2^min ((16:Int)).toNat 64)) (2^min ((8:Int)).toNat 64))).toNat)))) else zd (zW zU (aX a (2^min ((16:Int)).toNat 64))) zB0.size (b (zW zI (zW zI (0+16)+zW zI (ze zB0 (zW zU (aX a (2^min ((16:Int)).toNat 64))).toNat)))) else bif 256<=a then zd (zW zU (aX a (2^min ((8:Int)).toNat 64))) zB0.size (b (zW zI (zW zI (0+8)+zW zI (ze zB0 (zW zU (aX a (2^min ((8:Int)).toNat 64))).toNat)))) else zd (zW zU a) zB0.size (b (zW zI (0+zW zI (ze zB0 (zW zU a).toNat))))
def Bl(a:Int):ae Int:=
 zu5 a (λa0=>some a0)
def WE{R:Type}(a:Int)(b:Int->ae R):ae R:=
 (Bl a).bind λr1=>b (zW zI (64-r1))
def vD(a:Int):ae Int:=
 WE a (λa0=>some a0)
def ZG{R:Type}(a:Int)(b:dQ->ae R):ae R:=
 bif a<1 then b (0,0,()) else bif 128<a then b (0,0,()) else bif a<=64 then bif zW zI (64-a)<0 then none else b (IntKind.u64.wrap (1*2^min (zW zI (64-a)).toNat 64),0,()) else bif zW zI (128-a)<0 then none else b (0,IntKind.u64.wrap (1*2^min (zW zI (128-a)).toNat 64),())
def Kx(a:Int):ae dQ:=
 ZG a (λa0=>some a0)
def ZC{R:Type}(a b:dQ)(c:dQ->ae R):ae R:=
 c (dv .or .u64 a.1 b.1,dv .or .u64 a.2.1 b.2.1,())
def BQ(a b:dQ):ae dQ:=
 ZC a b (λa0=>some a0)
def ZF{R:Type}(a:dQ)(b:Int)(c:dQ->ae R):ae R:=
 (Kx b).bind λr1=>(BQ a r1).bind λr2=>c r2
def FM(a:dQ)(b:Int):ae dQ:=
 ZF a b (λa0=>some a0)
def ZA{R:Type}(a:(List Int))(b:(List Int)->Int->Int->dQ->dQ->ae R):ae R:=
 b a ((ag a):Int) 0 (0,0,()) (0,0,())
def T4{R:Type}(a:(List Int))(b c:Int)(d e:dQ)(f:(List Int)->Int->Int->dQ->dQ->ae R)(g:dQ->dQ->ae R):ae R:=
 bif c<b then zd c (ag a) ((FM e (ah a c.toNat (0:Int))).bind λr1=>f a b (zW zI (c+1)) d r1) else g d e
def ZB{R:Type}(a b:dQ)(c:dQ->ae R):ae R:=
 c b
def HF:Nat->(List Int)->Int->Int->dQ->dQ->ae (dQ×dQ)
 |0,_,_,_,_,_=>none
 |k+1,v0,v1,v2,v3,v4=>T4 v0 v1 v2 v3 v4 (λa0 a1 a2 a3 a4=>HF k a0 a1 a2 a3 a4) (λa0 a1=>some (a0,a1))
def BP(a:(List Int)):ae dQ:=
 ZA a (λa0 a1 a2 a3 a4=>(HF bG a0 a1 a2 a3 a4).bind λe=>ZB e.1 e.2 (λa0=>some a0))
def T5{R:Type}(a b:dQ)(c:dQ->ae R):ae R:=
 c (dv .and .u64 a.1 b.1,dv .and .u64 a.2.1 b.2.1,())
def AN(a b:dQ):ae dQ:=
 T5 a b (λa0=>some a0)
def Jn{R:Type}(a b:Int)(c:dQ->ae R):ae R:=
 c (a,b,())
def Ut(a b:Int):ae dQ:=
 Jn a b (λa0=>some a0)
def ZE{R:Type}(a:dQ)(b:Int)(c:Int->ae R):ae R:=
 bif(if b<0 then 0 else b)<64 then bif(if b<0 then 0 else b)<0 then none else bif !decide (IntKind.u64.wrap (a.1*2^min (if b<0 then 0 else b).toNat 64)=0) then(vD (IntKind.u64.wrap (a.1*2^min (if b<0 then 0 else b).toNat 64))).bind λr1=>c (zW zI (zW zI ((if b<0 then 0 else b)+r1)+1)) else bif(if 64<zW zI (64-64) then 64 else zW zI (64-64))<0 then none else bif !decide (IntKind.u64.wrap (a.2.1*2^min (if 64<zW zI (64-64) then 64 else zW zI (64-(64:Int))).toNat 64)=0) then(vD (IntKind.u64.wrap (a.2.1*2^min (if 64<zW zI (64-64) then 64 else zW zI (64-(64:Int))).toNat 64))).bind λr2=>c (zW zI (zW zI (64+r2)+1)) else c 0 else bif(if 64<zW zI ((if b<0 then 0 else b)-64) then 64 else zW zI ((if b<0 then 0 else b)-64))<0 then none else bif !decide (IntKind.u64.wrap (a.2.1*2^min (if 64<zW zI ((if b<0 then 0 else b)-64) then 64 else zW zI ((if b<0 then 0 else b)-(64:Int))).toNat 64)=0) then(vD (IntKind.u64.wrap (a.2.1*2^min (if 64<zW zI ((if b<0 then 0 else b)-64) then 64 else zW zI ((if b<0 then 0 else b)-(64:Int))).toNat 64))).bind λr3=>c (zW zI (zW zI ((if b<0 then 0 else b)+r3)+1)) else c 0
def DI(a:dQ)(b:Int):ae Int:=
 ZE a b (λa0=>some a0)
def ZD{R:Type}(a:dQ)(b:Int)(c:Bool->ae R):ae R:=
 (Kx b).bind λr1=>(AN a r1).bind λr2=>c (!(decide (r2.1=0)&&(decide (r2.2.1=0)&&true)))
def L9(a:dQ)(b:Int):ae Bool:=
 ZD a b (λa0=>some a0)
def Jo{R:Type}(a:dQ)(b:Int->Int->ae R):ae R:=
 b a.1 a.2.1
def Uu(a:dQ):ae (Int×Int):=
 Jo a (λa0 a1=>some (a0,a1))
def zty{R:Type}(a:Int)(b:Int->Bool->ae R):ae R:=
 bif 48<=a then bif a<=57 then b (zW zI (zW zU (a-48))) true else bif 65<=a then bif a<=70 then b (zW zI (zW zI (zW zU (a-65))+10)) true else b 0 false else b 0 false else bif 65<=a then bif a<=70 then b (zW zI (zW zI (zW zU (a-65))+10)) true else b 0 false else b 0 false
def Bk(a:Int):ae (Int×Bool):=
 zty a (λa0 a1=>some (a0,a1))
def Wy{R:Type}(a:af)(b:af->(List Int)->Int->Int->ae R):ae R:=
 bif 0<=zW zI (dc (a.size:Int) 2) then bif zW zI (dc (a.size:Int) 2)*1<=140737488355328 then b a [] 0 0 else none else none
def Ti{R:Type}(a:af)(b:(List Int))(c d:Int)(e:af->af->Int->Bool->(List Int)->ae R)(f:af->(List Int)->Int->Int->ae R)(g:af->(List Int)->ae R):ae R:=
 bif d<(a.size:Int) then zd d a.size ((Bk (ze a d.toNat)).bind λr1=>bif !r1.2 then e a (bs []) d false b else bif cB d 2=0 then f a b r1.1 (zW zI (d+1)) else bif(ag b+ag ([(zW zU (dv .or .i64 (zW zI (c*2^min ((4:Int)).toNat 64)) r1.1))]:List Int))*1<=140737488355328 then f a (b++([(zW zU (dv .or .i64 (zW zI (c*2^min ((4:Int)).toNat 64)) r1.1))]:List Int)) c (zW zI (d+1)) else none) else g a b
def zu0{R:Type}(a b:af)(c:Int)(d:Bool)(e:(List Int))(f:af->Int->Bool->ae R):ae R:=
 f b c d
def Wz{R:Type}(a:af)(b:(List Int))(c:af->Int->Bool->ae R):ae R:=
 bif !decide (cB (a.size:Int) 2=0) then c (bs []) (a.size:Int) false else c (strOf b) 0 true
def J9:Nat->af->(List Int)->Int->Int->ae (Sum (af×af×Int×Bool×(List Int)) (af×(List Int)))
 |0,_,_,_,_=>none
 |k+1,v0,v1,v2,v3=>Ti v0 v1 v2 v3 (λa0 a1 a2 a3 a4=>some (.inl (a0,a1,a2,a3,a4))) (λa0 a1 a2 a3=>J9 k a0 a1 a2 a3) (λa0 a1=>some (.inr (a0,a1)))
def qb(a:af):ae (af×Int×Bool):=
 Wy a (λa0 a1 a2 a3=>(J9 bG a0 a1 a2 a3).bind λe=>aI (λ(we:(af×af×Int×Bool×(List Int)))=>zu0 we.1 we.2.1 we.2.2.1 we.2.2.2.1 we.2.2.2.2 (λa0 a1 a2=>some (a0,a1,a2))) (λ(we:(af×(List Int)))=>Wz we.1 we.2 (λa0 a1 a2=>some (a0,a1,a2))) e)
def WB{R:Type}(a:af)(b:af->(List Int)->Int->ae R):ae R:=
 bif 0<=zW zI (2*(a.size:Int)) then bif zW zI (2*(a.size:Int))*1<=140737488355328 then b a [] 0 else none else none
def Tj{R:Type}(a:af)(b:(List Int))(c:Int)(d:af->(List Int)->Int->ae R)(e:(List Int)->ae R):ae R:=
 bif c<(a.size:Int) then zd c a.size (zd (aX (ze a c.toNat) (2^min ((4:Int)).toNat 8)) (bs [48,49,50,51,52,53,54,55,56,57,65,66,67,68,69,70]).size (zd c a.size (zd (dv .and .u8 (ze a c.toNat) 15) (bs [48,49,50,51,52,53,54,55,56,57,65,66,67,68,69,70]).size (bif(ag b+ag ([(ze (bs [48,49,50,51,52,53,54,55,56,57,65,66,67,68,69,70]) (aX (ze a c.toNat) (2^min ((4:Int)).toNat 8)).toNat),(ze (bs [48,49,50,51,52,53,54,55,56,57,65,66,67,68,69,70]) (dv .and .u8 (ze a c.toNat) (15:Int)).toNat)]:List Int))*1<=140737488355328 then d a (b++([(ze (bs [48,49,50,51,52,53,54,55,56,57,65,66,67,68,69,70]) (aX (ze a c.toNat) (2^min ((4:Int)).toNat 8)).toNat),(ze (bs [48,49,50,51,52,53,54,55,56,57,65,66,67,68,69,70]) (dv .and .u8 (ze a c.toNat) (15:Int)).toNat)]:List Int)) (zW zI (c+1)) else none)))) else e b
def zu1{R:Type}(a:(List Int))(b:af->ae R):ae R:=
 b (strOf a)
def Ka:Nat->af->(List Int)->Int->ae (List Int)
 |0,_,_,_=>none
 |k+1,v0,v1,v2=>Tj v0 v1 v2 (λa0 a1 a2=>Ka k a0 a1 a2) (λa0=>some a0)
def sM(a:af):ae af:=
 WB a (λa0 a1 a2=>(Ka bG a0 a1 a2).bind λe=>zu1 e (λa0=>some a0))
def vL{R:Type}(a:Int)(b:Bool->ae R):ae R:=
 bif a=1 then b true else b (decide (a=2))
def Q9(a:Int):ae Bool:=
 vL a (λa0=>some a0)
def YI{R:Type}(a:Int)(b:af)(c:Int)(d:(List Int)->Int->Int->ae R):ae R:=
 bif a=1 then bif zW zI ((b.size:Int)-c)<zW zI (8*2) then d (aw 8 0) 0 2 else bif 0<=zW zI (c+zW zI (8*2)) then bif zW zI (c+zW zI (8*2))<=(b.size:Int) then bif 0<=c then bif c<=(((zW zI (c+zW zI (8*(2:Int)))).toNat:Nat):Int) then bif a=1 then(qb (b.extract c.toNat (zW zI (c+zW zI (8*(2:Int)))).toNat)).bind λr1=>bif !r1.2.2 then d (aw 8 0) 0 3 else bif ak 8 (ag (aw 8 (0:Int))) then bif ak 8 (ag (gX (aw 8 (0:Int)) (aJ 8 (z31 r1.1)) 0)) then d (gX (aw 8 0) (aJ 8 (z31 r1.1)) 0) (zW zI (c+zW zI (8*2))) 0 else none else none else bif ak 8 (ag (aw 8 (0:Int))) then bif ak 8 (ag (gX (aw 8 (0:Int)) (aJ 8 (z31 (b.extract c.toNat (zW zI (c+zW zI ((8:Int)*(2:Int)))).toNat))) 0)) then d (gX (aw 8 0) (aJ 8 (z31 (b.extract c.toNat (zW zI (c+zW zI (8*(2:Int)))).toNat))) 0) (zW zI (c+zW zI (8*2))) 0 else none else none else none else none else none else none else bif zW zI ((b.size:Int)-c)<8 then d (aw 8 0) 0 2 else bif 0<=zW zI (c+8) then bif zW zI (c+8)<=(b.size:Int) then bif 0<=c then bif c<=(((zW zI (c+(8:Int))).toNat:Nat):Int) then bif a=1 then(qb (b.extract c.toNat (zW zI (c+(8:Int))).toNat)).bind λr2=>bif !r2.2.2 then d (aw 8 0) 0 3 else bif ak 8 (ag (aw 8 (0:Int))) then bif ak 8 (ag (gX (aw 8 (0:Int)) (aJ 8 (z31 r2.1)) 0)) then d (gX (aw 8 0) (aJ 8 (z31 r2.1)) 0) (zW zI (c+8)) 0 else none else none else bif ak 8 (ag (aw 8 (0:Int))) then bif ak 8 (ag (gX (aw 8 (0:Int)) (aJ 8 (z31 (b.extract c.toNat (zW zI (c+(8:Int))).toNat))) 0)) then d (gX (aw 8 0) (aJ 8 (z31 (b.extract c.toNat (zW zI (c+(8:Int))).toNat))) 0) (zW zI (c+8)) 0 else none else none else none else none else none else none
def Kw(a:Int)(b:af)(c:Int):ae ((List Int)×Int×Int):=
 YI a b c (λa0 a1 a2=>some (a0,a1,a2))
def yp{R:Type}(a:(List Int))(b:Int->(List Int)->Int->ae R):ae R:=
 b 0 a 0
def vJ{R:Type}(a:Int)(b:(List Int))(c:Int)(d:Int->(List Int)->Int->ae R)(e:Int->ae R):ae R:=
 bif c<8 then zd c 8 (d (dv .or .u64 (IntKind.u64.wrap (a*2^min ((8:Int)).toNat 64)) (IntKind.u64.wrap (ah b c.toNat 0))) b (zW zI (c+1))) else e a
def BR{R:Type}(a:Int)(b:Int->ae R):ae R:=
 b a
def sQ:Nat->Int->(List Int)->Int->ae Int
 |0,_,_,_=>none
 |k+1,v0,v1,v2=>vJ v0 v1 v2 (λa0 a1 a2=>sQ k a0 a1 a2) (λa0=>some a0)
def Q7(a:(List Int)):ae Int:=
 yp a (λa0 a1 a2=>(sQ bG a0 a1 a2).bind λe=>BR e (λa0=>some a0))
def yl{R:Type}(a:Int)(b:af)(c:Int)(d:dQ->Int->Int->ae R):ae R:=
 (Q9 a).bind λr1=>bif !r1 then d (0,0,()) 0 1 else bif c<0 then d (0,0,()) 0 1 else bif(b.size:Int)<c then d (0,0,()) 0 1 else(Kw a b c).bind λr2=>bif !decide (r2.2.2=0) then d (0,0,()) 0 r2.2.2 else(Q7 r2.1).bind λr3=>bif dv .and .u64 r3 9223372036854775808=0 then(Ut r3 (0:Int)).bind λr4=>d r4 r2.2.1 0 else(Kw a b r2.2.1).bind λr5=>bif !decide (r5.2.2=0) then d (0,0,()) 0 r5.2.2 else bif r5.1=([0,0,0,0,0,0,0,0]:List Int) then d (0,0,()) 0 8 else(Q7 r5.1).bind λr6=>(Ut (dv .andNot .u64 r3 9223372036854775808) r6).bind λr7=>d r7 r5.2.1 0
def Q5(a:Int)(b:af)(c:Int):ae (dQ×Int×Int):=
 yl a b c (λa0 a1 a2=>some (a0,a1,a2))
def yr{R:Type}(a:Int)(b:Int->Int->(List Int)->(List Int)->ae R):ae R:=
 b a 0 (aw 8 0) (aw 8 0)
def vK{R:Type}(a b:Int)(c d:(List Int))(e:Int->Int->(List Int)->(List Int)->ae R)(f:(List Int)->(List Int)->ae R):ae R:=
 bif b<8 then bif zW zI (8*zW zI (7-b))<0 then none else zd b 8 (e a (zW zI (b+1)) c (b8 d b.toNat (zW zU (aX a (2^min (zW zI (8*zW zI (7-b))).toNat 64))))) else f c d
def yt{R:Type}(a b:(List Int))(c:(List Int)->ae R):ae R:=
 c b
def qE:Nat->Int->Int->(List Int)->(List Int)->ae ((List Int)×(List Int))
 |0,_,_,_,_=>none
 |k+1,v0,v1,v2,v3=>vK v0 v1 v2 v3 (λa0 a1 a2 a3=>qE k a0 a1 a2 a3) (λa0 a1=>some (a0,a1))
def Q8(a:Int):ae (List Int):=
 yr a (λa0 a1 a2 a3=>(qE bG a0 a1 a2 a3).bind λe=>yt e.1 e.2 (λa0=>some a0))
def ym{R:Type}(a:Int)(b:dQ)(c:af->Int->ae R):ae R:=
 (Q9 a).bind λr1=>bif !r1 then c (bs []) 1 else(L9 b (1:Int)).bind λr2=>bif r2 then c (bs []) 1 else(Uu b).bind λr3=>(Q8 r3.2).bind λr4=>bif !decide (r4=([0,0,0,0,0,0,0,0]:List Int)) then bif ak 8 (ag r4) then(Q8 (dv .or .u64 r3.1 (9223372036854775808:Int))).bind λr5=>bif ak 8 (ag r5) then bif(strOf r5).size+(strOf r4).size<=9223372036854775807 then bif a=1 then(sM (strOf r5++strOf r4)).bind λr6=>c r6 0 else c (strOf r5++strOf r4) 0 else none else none else none else(Q8 r3.1).bind λr7=>bif ak 8 (ag r7) then bif(strOf r7).size+(bs []).size<=9223372036854775807 then bif a=1 then(sM (strOf r7++bs [])).bind λr8=>c r8 0 else c (strOf r7++bs []) 0 else none else none
def Q6(a:Int)(b:dQ):ae Ni:=
 ym a b (λa0 a1=>some (a0,a1))
def Tq{R:Type}(a:Int)(b:Int->ae R):ae R:=
 bif a=2 then b 2 else bif a=3 then b 3 else b 0
def sO(a:Int):ae Int:=
 Tq a (λa0=>some a0)
def zuk{R:Type}(a:Int)(b:Int->Int->Int->ae R):ae R:=
 (sO a).bind λr1=>b 0 r1 0
def zul{R:Type}(a b c:Int)(d:Int->Int->Int->ae R)(e:Int->ae R):ae R:=
 bif c<b then d (zW zI (zW zI (10*a)+9)) b (zW zI (c+1)) else e a
def zum{R:Type}(a:Int)(b:Int->ae R):ae R:=
 b a
def WW:Nat->Int->Int->Int->ae Int
 |0,_,_,_=>none
 |k+1,v0,v1,v2=>zul v0 v1 v2 (λa0 a1 a2=>WW k a0 a1 a2) (λa0=>some a0)
def zG(a:Int):ae Int:=
 zuk a (λa0 a1 a2=>(WW bG a0 a1 a2).bind λe=>zum e (λa0=>some a0))
def Tp{R:Type}(a b:Int)(c:Bool->ae R):ae R:=
 bif a=1 then(sO b).bind λr1=>c (decide (0<r1)) else bif a=2 then(sO b).bind λr2=>c (decide (0<r2)) else c false
def zJ(a b:Int):ae Bool:=
 Tp a b (λa0=>some a0)
def WU{R:Type}(a b:Int)(c:af)(d:Int)(e:Int->Int->Int->ae R):ae R:=
 (zJ a b).bind λr1=>bif !r1 then e 0 0 1 else bif d<0 then e 0 0 1 else bif(c.size:Int)<d then e 0 0 1 else(sO b).bind λr2=>bif a=2 then(Q2 r2).bind λr3=>bif zW zI ((c.size:Int)-d)<r3 then e 0 0 2 else bif 0<=zW zI (d+r3) then bif zW zI (d+r3)<=(c.size:Int) then bif 0<=d then bif d<=(((zW zI (d+r3)).toNat:Nat):Int) then bif a=2 then(sO b).bind λr4=>(Q0 (c.extract d.toNat (zW zI (d+r3)).toNat) r4).bind λr5=>bif !decide (r5.2.1=0) then e 0 0 3 else(FJ r5.1).bind λr6=>bif !r6.2 then e 0 0 3 else e r6.1 (zW zI (d+r3)) 0 else(FJ (c.extract d.toNat (zW zI (d+r3)).toNat)).bind λr7=>bif !r7.2 then e 0 0 3 else e r7.1 (zW zI (d+r3)) 0 else none else none else none else none else bif zW zI ((c.size:Int)-d)<r2 then e 0 0 2 else bif 0<=zW zI (d+r2) then bif zW zI (d+r2)<=(c.size:Int) then bif 0<=d then bif d<=(((zW zI (d+r2)).toNat:Nat):Int) then bif a=2 then(sO b).bind λr8=>(Q0 (c.extract d.toNat (zW zI (d+r2)).toNat) r8).bind λr9=>bif !decide (r9.2.1=0) then e 0 0 3 else(FJ r9.1).bind λqZ=>bif !qZ.2 then e 0 0 3 else e qZ.1 (zW zI (d+r2)) 0 else(FJ (c.extract d.toNat (zW zI (d+r2)).toNat)).bind λtn=>bif !tn.2 then e 0 0 3 else e tn.1 (zW zI (d+r2)) 0 else none else none else none else none
def Bs(a b:Int)(c:af)(d:Int):ae sC:=
 WU a b c d (λa0 a1 a2=>some (a0,a1,a2))
def WX{R:Type}(a b c:Int)(d:af->Int->ae R):ae R:=
 (zJ a b).bind λr1=>bif !r1 then d (bs []) 1 else(sO b).bind λr2=>(L6 c r2).bind λr3=>bif !r3.2 then d (bs []) 5 else bif a=2 then(Q1 r3.1).bind λr4=>d r4.1 0 else d r3.1 0
def zH(a b c:Int):ae Ni:=
 WX a b c (λa0 a1=>some (a0,a1))
def Y1{R:Type}(a:Int)(b:Int->ae R):ae R:=
 bif a=1 then b 1 else bif a=2 then b 2 else bif a=3 then b 3 else bif a=4 then b 7 else bif a=5 then b 15 else bif a=6 then b 15 else b 0
def FG(a:Int):ae Int:=
 Y1 a (λa0=>some a0)
def YS{R:Type}(a:Int)(b:Bool->ae R):ae R:=
 (FG a).bind λr1=>b (!decide (r1=0))
def HW(a:Int):ae Bool:=
 YS a (λa0=>some a0)
def I5{R:Type}(a:Int)(b:Int->ae R):ae R:=
 bif 48<=a then bif a<=57 then b 1 else bif 65<=a then bif a<=90 then b 2 else bif 97<=a then bif a<=122 then b 2 else bif 32<=a then bif a<=126 then b 4 else b 8 else b 8 else bif 32<=a then bif a<=126 then b 4 else b 8 else b 8 else bif 97<=a then bif a<=122 then b 2 else bif 32<=a then bif a<=126 then b 4 else b 8 else b 8 else bif 32<=a then bif a<=126 then b 4 else b 8 else b 8 else bif 65<=a then bif a<=90 then b 2 else bif 97<=a then bif a<=122 then b 2 else bif 32<=a then bif a<=126 then b 4 else b 8 else b 8 else bif 32<=a then bif a<=126 then b 4 else b 8 else b 8 else bif 97<=a then bif a<=122 then b 2 else bif 32<=a then bif a<=126 then b 4 else b 8 else b 8 else bif 32<=a then bif a<=126 then b 4 else b 8 else b 8
def HX(a:Int):ae Int:=
 I5 a (λa0=>some a0)
def YR{R:Type}(a:Int)(b:af)(c:af->Int->Int->ae R):ae R:=
 (FG a).bind λr1=>c b r1 0
def TY{R:Type}(a:af)(b c:Int)(d:Int->ae R)(e:af->Int->Int->ae R)(f:ae R):ae R:=
 bif c<(a.size:Int) then zd c a.size ((HX (ze a c.toNat)).bind λr2=>bif dv .and .i64 b r2=0 then d c else e a b (zW zI (c+1))) else f
def I3{R:Type}(a:Int)(b:Int->ae R):ae R:=
 b a
def I4{R:Type}(a:Int->ae R):ae R:=
 a (-1:Int)
def Km:Nat->af->Int->Int->ae (Sum Int Unit)
 |0,_,_,_=>none
 |k+1,v0,v1,v2=>TY v0 v1 v2 (λa0=>some (.inl a0)) (λa0 a1 a2=>Km k a0 a1 a2) (some (.inr ()))
def LY(a:Int)(b:af):ae Int:=
 YR a b (λa0 a1 a2=>(Km bG a0 a1 a2).bind λe=>aI (λ(we:Int)=>I3 we (λa0=>some a0)) (λ(we:Unit)=>I4 (λa0=>some a0)) e)
def YV{R:Type}(a b:Int)(c:Bool->ae R):ae R:=
 (HW a).bind λr1=>bif r1 then(HW b).bind λr2=>bif r2 then(FG b).bind λr3=>(FG a).bind λr4=>c (decide (dv .andNot .i64 r3 r4=0)) else c false else c false
def LZ(a b:Int):ae Bool:=
 YV a b (λa0=>some a0)
def zw2{R:Type}(a:Int)(b:Bool->ae R):ae R:=
 bif 0<a then bif a<=255 then b (decide (dv .and .i64 a 32=0)) else b false else b false
def xp(a:Int):ae Bool:=
 zw2 a (λa0=>some a0)
def XZ{R:Type}(a:Int)(b:Bool->ae R):ae R:=
 bif a<=255 then(xp a).bind λr1=>bif r1 then b (!decide (dv .and .i64 a 31=31)) else b false else bif a<=65535 then(xp (aX a (2^min ((8:Int)).toNat 64))).bind λr2=>bif r2 then bif dv .and .i64 (aX a (2^min ((8:Int)).toNat 64)) 31=31 then bif 1<=dv .and .i64 a 255 then b (decide (dv .and .i64 a 255<=127)) else b false else b false else b false else b false
def BL(a:Int):ae Bool:=
 XZ a (λa0=>some a0)
def XY{R:Type}(a:af)(b:Int)(c:Int->Int->Int->ae R):ae R:=
 bif b<0 then c 0 0 1 else bif(a.size:Int)<b then c 0 0 1 else bif b=(a.size:Int) then c 0 0 2 else zd b a.size ((xp (zW zI (ze a b.toNat))).bind λr1=>bif !r1 then c 0 0 13 else bif !decide (dv .and .i64 (zW zI (ze a b.toNat)) 31=31) then c (zW zI (ze a b.toNat)) (zW zI (b+1)) 0 else bif zW zI (b+1)=(a.size:Int) then c 0 0 2 else zd (zW zI (b+1)) a.size ((BL (dv .or .i64 (zW zI (zW zI (ze a b.toNat)*2^min ((8:Int)).toNat 64)) (zW zI (ze a (zW zI (b+(1:Int))).toNat)))).bind λr2=>bif !r2 then c 0 0 13 else c (dv .or .i64 (zW zI (zW zI (ze a b.toNat)*2^min ((8:Int)).toNat 64)) (zW zI (ze a (zW zI (b+(1:Int))).toNat))) (zW zI (b+2)) 0))
def BK(a:af)(b:Int):ae sC:=
 XY a b (λa0 a1 a2=>some (a0,a1,a2))
def X3{R:Type}(a:af)(b:af->cN->Int->Nj->ae R):ae R:=
 b a [] 0 []
def X4{R:Type}(a:af)(b:cN)(c:Int)(d:Nj)(e:cN->Int->Int->cN->ae R)(f:af->cN->Int->Nj->ae R)(g:cN->ae R):ae R:=
 bif c<(a.size:Int) then(BK a c).bind λr1=>bif !decide (r1.2.2=(0:Int)) then e ([]:List eQ) r1.2.2 c b else(Q3 a r1.2.1).bind λr2=>bif !decide (r2.2.2=(0:Int)) then e ([]:List eQ) r2.2.2 r1.2.1 b else bif zW zI ((a.size:Int)-r2.2.1)<r2.1 then e ([]:List eQ) (2:Int) (a.size:Int) b else bif n7 (pf (.int .i64)) false d r1.1 then e ([]:List eQ) (10:Int) c b else bif n8 (pf (.int .i64)) d r1.1 then none else bif(0:Int)<=zW zI (r2.2.1+r2.1) then bif zW zI (r2.2.1+r2.1)<=((a.size:Nat):Int) then bif(0:Int)<=r2.2.1 then bif r2.2.1<=(((zW zI (r2.2.1+r2.1)).toNat:Nat):Int) then bif(ag b+ag ([(r1.1,a.extract r2.2.1.toNat (zW zI (r2.2.1+r2.1)).toNat,())]:List eQ))*24<=140737488355328 then f a (b++([(r1.1,a.extract r2.2.1.toNat (zW zI (r2.2.1+r2.1)).toNat,())]:List eQ)) (zW zI (r2.2.1+r2.1)) (d++ [(r1.1,true)]) else none else none else none else none else none else g b
def zw4{R:Type}(a:cN)(b c:Int)(d:cN)(e:cN->Int->Int->ae R):ae R:=
 e a b c
def zw5{R:Type}(a:cN)(b:cN->Int->Int->ae R):ae R:=
 b a 0 0
def Ls:Nat->af->cN->Int->Nj->ae (Sum BW cN)
 |0,_,_,_,_=>none
 |k+1,v0,v1,v2,v3=>X4 v0 v1 v2 v3 (λa0 a1 a2 a3=>some (.inl (a0,a1,a2,a3))) (λa0 a1 a2 a3=>Ls k a0 a1 a2 a3) (λa0=>some (.inr a0))
def BM(a:af):ae (Sum tK tK):=
 X3 a (λa0 a1 a2 a3=>(Ls bG a0 a1 a2 a3).bind λe=>aI (λ(we:BW)=>zw4 we.1 we.2.1 we.2.2.1 we.2.2.2 (λa0 a1 a2=>some (.inl (a0,a1,a2)))) (λ(we:cN)=>zw5 we (λa0 a1 a2=>some (.inr (a0,a1,a2)))) e)
def XH{R:Type}(a:dR)(b:Int->ae R):ae R:=
 bif a.1<2 then b 1 else bif 128<a.1 then b 1 else(HW a.2.1).bind λr1=>bif !r1 then b 6 else bif a.2.2.1<1 then b 3 else bif 3<a.2.2.1 then b 3 else bif a.2.2.2.1<1 then b 5 else bif a.2.2.2.2.1<a.2.2.2.1 then b 5 else bif 999<a.2.2.2.2.1 then b 5 else bif a.2.2.1=1 then bif !decide (a.2.2.2.1=a.2.2.2.2.1) then b 5 else bif !decide (a.2.2.1=1) then(zG a.2.2.1).bind λr2=>bif r2<a.2.2.2.2.1 then b 5 else bif a.2.2.1=1 then bif a.2.1=6 then b 13 else b 0 else b 0 else bif a.2.2.1=1 then bif a.2.1=6 then b 13 else b 0 else b 0 else bif !decide (a.2.2.1=1) then(zG a.2.2.1).bind λr3=>bif r3<a.2.2.2.2.1 then b 5 else bif a.2.2.1=1 then bif a.2.1=6 then b 13 else b 0 else b 0 else bif a.2.2.1=1 then bif a.2.1=6 then b 13 else b 0 else b 0
def uK(a:dR):ae Int:=
 XH a (λa0=>some a0)
def XI{R:Type}(a:dR)(b:af)(c:Int->ae R):ae R:=
 (uK a).bind λr1=>bif !decide (r1=0) then c 1 else bif(b.size:Int)<a.2.2.2.1 then c 5 else bif a.2.2.2.2.1<(b.size:Int) then c 5 else(LY a.2.1 b).bind λr2=>bif 0<=r2 then c 6 else bif a.2.1=6 then(BM b).bind λr3=>aI (λ(C5:tK)=>bif !decide (C5.2.1=0) then c 13 else c 0) (λ(C5:tK)=>bif !decide (C5.2.1=0) then c 13 else c 0) r3 else c 0
def gV(a:dR)(b:af):ae Int:=
 XI a b (λa0=>some a0)
def XK{R:Type}(a b:Int)(c:Bool->ae R):ae R:=
 bif a=5 then c true else bif a=6 then c (decide (a=b)) else bif b=6 then c (decide (a=b)) else(LZ a b).bind λr1=>c r1
def DF(a b:Int):ae Bool:=
 XK a b (λa0=>some a0)
def XJ{R:Type}(a b:dR)(c:Bool->ae R):ae R:=
 (uK a).bind λr1=>bif r1=0 then(uK b).bind λr2=>bif r2=0 then bif a.2.2.2.1<=b.2.2.2.1 then bif b.2.2.2.2.1<=a.2.2.2.2.1 then(DF a.2.1 b.2.1).bind λr3=>c r3 else c false else c false else c false else c false
def uL(a b:dR):ae Bool:=
 XJ a b (λa0=>some a0)
def TX{R:Type}(a:Int)(b:Bool->ae R):ae R:=
 bif a=1 then b true else b (decide (a=2))
def HU(a:Int):ae Bool:=
 TX a (λa0=>some a0)
def YM{R:Type}(a b:Int)(c:Int->ae R):ae R:=
 bif a=2 then bif b=1 then c 1 else bif a=1 then bif b=5 then c 2 else bif b=6 then c 2 else c 0 else c 0 else bif a=1 then bif b=5 then c 2 else bif b=6 then c 2 else c 0 else c 0
def tW(a b:Int):ae Int:=
 YM a b (λa0=>some a0)
def YK{R:Type}(a:Int)(b:dR)(c:af)(d:Int)(e:af->Int->Int->ae R):ae R:=
 (HU a).bind λr1=>bif !r1 then e (bs []) 0 1 else(uK b).bind λr2=>bif !decide (r2=0) then e (bs []) 0 1 else bif d<0 then e (bs []) 0 1 else bif(c.size:Int)<d then e (bs []) 0 1 else bif !decide (b.2.2.1=1) then(Bs a b.2.2.1 c d).bind λr3=>bif !decide (r3.2.2=0) then e (bs []) 0 r3.2.2 else bif r3.1<b.2.2.2.1 then e (bs []) 0 5 else bif b.2.2.2.2.1<r3.1 then e (bs []) 0 5 else(tW a b.2.1).bind λr4=>bif r4=1 then(Q2 r3.1).bind λr5=>bif zW zI ((c.size:Int)-r3.2.1)<r5 then e (bs []) 0 2 else bif 0<=zW zI (r3.2.1+r5) then bif zW zI (r3.2.1+r5)<=(c.size:Int) then bif 0<=r3.2.1 then bif r3.2.1<=(((zW zI (r3.2.1+r5)).toNat:Nat):Int) then(tW a b.2.1).bind λr6=>bif r6=1 then(Q0 (c.extract r3.2.1.toNat (zW zI (r3.2.1+r5)).toNat) r3.1).bind λr7=>bif !decide (r7.2.1=0) then e (bs []) 0 r7.2.1 else(gV b r7.1).bind λr8=>bif !decide (r8=0) then e (bs []) 0 r8 else e r7.1 (zW zI (r3.2.1+r5)) 0 else bif r6=2 then(qb (c.extract r3.2.1.toNat (zW zI (r3.2.1+r5)).toNat)).bind λr9=>bif !r9.2.2 then e (bs []) 0 3 else(gV b r9.1).bind λqZ=>bif !decide (qZ=0) then e (bs []) 0 qZ else e r9.1 (zW zI (r3.2.1+r5)) 0 else(gV b (c.extract r3.2.1.toNat (zW zI (r3.2.1+r5)).toNat)).bind λtn=>bif !decide (tn=0) then e (bs []) 0 tn else e (c.extract r3.2.1.toNat (zW zI (r3.2.1+r5)).toNat) (zW zI (r3.2.1+r5)) 0 else none else none else none else none else bif r4=2 then bif zW zI ((c.size:Int)-r3.2.1)<zW zI (2*r3.1) then e (bs []) 0 2 else bif 0<=zW zI (r3.2.1+zW zI (2*r3.1)) then bif zW zI (r3.2.1+zW zI (2*r3.1))<=(c.size:Int) then bif 0<=r3.2.1 then bif r3.2.1<=(((zW zI (r3.2.1+zW zI (2*r3.1))).toNat:Nat):Int) then(tW a b.2.1).bind λuz=>bif uz=1 then(Q0 (c.extract r3.2.1.toNat (zW zI (r3.2.1+zW zI (2*r3.1))).toNat) r3.1).bind λsF=>bif !decide (sF.2.1=0) then e (bs []) 0 sF.2.1 else(gV b sF.1).bind λvd=>bif !decide (vd=0) then e (bs []) 0 vd else e sF.1 (zW zI (r3.2.1+zW zI (2*r3.1))) 0 else bif uz=2 then(qb (c.extract r3.2.1.toNat (zW zI (r3.2.1+zW zI (2*r3.1))).toNat)).bind λve=>bif !ve.2.2 then e (bs []) 0 3 else(gV b ve.1).bind λAs=>bif !decide (As=0) then e (bs []) 0 As else e ve.1 (zW zI (r3.2.1+zW zI (2*r3.1))) 0 else(gV b (c.extract r3.2.1.toNat (zW zI (r3.2.1+zW zI (2*r3.1))).toNat)).bind λAt=>bif !decide (At=0) then e (bs []) 0 At else e (c.extract r3.2.1.toNat (zW zI (r3.2.1+zW zI (2*r3.1))).toNat) (zW zI (r3.2.1+zW zI (2*r3.1))) 0 else none else none else none else none else bif zW zI ((c.size:Int)-r3.2.1)<r3.1 then e (bs []) 0 2 else bif 0<=zW zI (r3.2.1+r3.1) then bif zW zI (r3.2.1+r3.1)<=(c.size:Int) then bif 0<=r3.2.1 then bif r3.2.1<=(((zW zI (r3.2.1+r3.1)).toNat:Nat):Int) then(tW a b.2.1).bind λCH=>bif CH=1 then(Q0 (c.extract r3.2.1.toNat (zW zI (r3.2.1+r3.1)).toNat) r3.1).bind λxQ=>bif !decide (xQ.2.1=0) then e (bs []) 0 xQ.2.1 else(gV b xQ.1).bind λE2=>bif !decide (E2=0) then e (bs []) 0 E2 else e xQ.1 (zW zI (r3.2.1+r3.1)) 0 else bif CH=2 then(qb (c.extract r3.2.1.toNat (zW zI (r3.2.1+r3.1)).toNat)).bind λCI=>bif !CI.2.2 then e (bs []) 0 3 else(gV b CI.1).bind λIU=>bif !decide (IU=0) then e (bs []) 0 IU else e CI.1 (zW zI (r3.2.1+r3.1)) 0 else(gV b (c.extract r3.2.1.toNat (zW zI (r3.2.1+r3.1)).toNat)).bind λOK=>bif !decide (OK=0) then e (bs []) 0 OK else e (c.extract r3.2.1.toNat (zW zI (r3.2.1+r3.1)).toNat) (zW zI (r3.2.1+r3.1)) 0 else none else none else none else none else(tW a b.2.1).bind λr24=>bif r24=1 then(Q2 b.2.2.2.1).bind λCJ=>bif zW zI ((c.size:Int)-d)<CJ then e (bs []) 0 2 else bif 0<=zW zI (d+CJ) then bif zW zI (d+CJ)<=(c.size:Int) then bif 0<=d then bif d<=(((zW zI (d+CJ)).toNat:Nat):Int) then(tW a b.2.1).bind λr26=>bif r26=1 then(Q0 (c.extract d.toNat (zW zI (d+CJ)).toNat) b.2.2.2.1).bind λU4=>bif !decide (U4.2.1=0) then e (bs []) 0 U4.2.1 else(gV b U4.1).bind λr28=>bif !decide (r28=0) then e (bs []) 0 r28 else e U4.1 (zW zI (d+CJ)) 0 else bif r26=2 then(qb (c.extract d.toNat (zW zI (d+CJ)).toNat)).bind λr29=>bif !r29.2.2 then e (bs []) 0 3 else(gV b r29.1).bind λr30=>bif !decide (r30=0) then e (bs []) 0 r30 else e r29.1 (zW zI (d+CJ)) 0 else(gV b (c.extract d.toNat (zW zI (d+CJ)).toNat)).bind λr31=>bif !decide (r31=0) then e (bs []) 0 r31 else e (c.extract d.toNat (zW zI (d+CJ)).toNat) (zW zI (d+CJ)) 0 else none else none else none else none else bif r24=2 then bif zW zI ((c.size:Int)-d)<zW zI (2*b.2.2.2.1) then e (bs []) 0 2 else bif 0<=zW zI (d+zW zI (2*b.2.2.2.1)) then bif zW zI (d+zW zI (2*b.2.2.2.1))<=(c.size:Int) then bif 0<=d then bif d<=(((zW zI (d+zW zI (2*b.2.2.2.1))).toNat:Nat):Int) then(tW a b.2.1).bind λr32=>bif r32=1 then(Q0 (c.extract d.toNat (zW zI (d+zW zI (2*b.2.2.2.1))).toNat) b.2.2.2.1).bind λU5=>bif !decide (U5.2.1=0) then e (bs []) 0 U5.2.1 else(gV b U5.1).bind λr34=>bif !decide (r34=0) then e (bs []) 0 r34 else e U5.1 (zW zI (d+zW zI (2*b.2.2.2.1))) 0 else bif r32=2 then(qb (c.extract d.toNat (zW zI (d+zW zI (2*b.2.2.2.1))).toNat)).bind λr35=>bif !r35.2.2 then e (bs []) 0 3 else(gV b r35.1).bind λr36=>bif !decide (r36=0) then e (bs []) 0 r36 else e r35.1 (zW zI (d+zW zI (2*b.2.2.2.1))) 0 else(gV b (c.extract d.toNat (zW zI (d+zW zI (2*b.2.2.2.1))).toNat)).bind λr37=>bif !decide (r37=0) then e (bs []) 0 r37 else e (c.extract d.toNat (zW zI (d+zW zI (2*b.2.2.2.1))).toNat) (zW zI (d+zW zI (2*b.2.2.2.1))) 0 else none else none else none else none else bif zW zI ((c.size:Int)-d)<b.2.2.2.1 then e (bs []) 0 2 else bif 0<=zW zI (d+b.2.2.2.1) then bif zW zI (d+b.2.2.2.1)<=(c.size:Int) then bif 0<=d then bif d<=(((zW zI (d+b.2.2.2.1)).toNat:Nat):Int) then(tW a b.2.1).bind λr38=>bif r38=1 then(Q0 (c.extract d.toNat (zW zI (d+b.2.2.2.1)).toNat) b.2.2.2.1).bind λU6=>bif !decide (U6.2.1=0) then e (bs []) 0 U6.2.1 else(gV b U6.1).bind λr40=>bif !decide (r40=0) then e (bs []) 0 r40 else e U6.1 (zW zI (d+b.2.2.2.1)) 0 else bif r38=2 then(qb (c.extract d.toNat (zW zI (d+b.2.2.2.1)).toNat)).bind λr41=>bif !r41.2.2 then e (bs []) 0 3 else(gV b r41.1).bind λr42=>bif !decide (r42=0) then e (bs []) 0 r42 else e r41.1 (zW zI (d+b.2.2.2.1)) 0 else(gV b (c.extract d.toNat (zW zI (d+b.2.2.2.1)).toNat)).bind λr43=>bif !decide (r43=0) then e (bs []) 0 r43 else e (c.extract d.toNat (zW zI (d+b.2.2.2.1)).toNat) (zW zI (d+b.2.2.2.1)) 0 else none else none else none else none
def LV(a:Int)(b:dR)(c:af)(d:Int):ae KI:=
 YK a b c d (λa0 a1 a2=>some (a0,a1,a2))
def YL{R:Type}(a:Int)(b:dR)(c:af)(d:af->Int->ae R):ae R:=
 (HU a).bind λr1=>bif !r1 then d (bs []) 1 else(gV b c).bind λr2=>bif !decide (r2=0) then d (bs []) r2 else bif !decide (b.2.2.1=1) then(zH a b.2.2.1 (c.size:Int)).bind λr3=>(tW a b.2.1).bind λr4=>bif r4=1 then(Q1 c).bind λr5=>bif r3.1.size+r5.1.size<=9223372036854775807 then d (r3.1++r5.1) 0 else none else bif r4=2 then(sM c).bind λr6=>bif r3.1.size+r6.size<=9223372036854775807 then d (r3.1++r6) 0 else none else bif r3.1.size+c.size<=9223372036854775807 then d (r3.1++c) 0 else none else(tW a b.2.1).bind λr7=>bif r7=1 then(Q1 c).bind λr8=>bif(bs []).size+r8.1.size<=9223372036854775807 then d (bs []++r8.1) 0 else none else bif r7=2 then(sM c).bind λr9=>bif(bs []).size+r9.size<=9223372036854775807 then d (bs []++r9) 0 else none else bif(bs []).size+c.size<=9223372036854775807 then d (bs []++c) 0 else none
def HP(a:Int)(b:dR)(c:af):ae Ni:=
 YL a b c (λa0 a1=>some (a0,a1))
def Y9{R:Type}(a:dD)(b:Int->Int->ae R)(c:dD->Int->Int->tJ->ae R):ae R:=
 bif 256<((ag a):Int) then b 5 256 else c a ((ag a):Int) 0 []
def Jb{R:Type}(a:dD)(b c:Int)(d:tJ)(e:Int->Int->ae R)(f:dD->Int->Int->tJ->ae R)(g:ae R):ae R:=
 bif c<b then zd c (ag a) (bif n7 (pf .str) false d (ah a c.toNat (bs [],bs [],())).1 then e (10:Int) c else bif n8 (pf .str) d (ah a c.toNat (bs [],bs [],())).1 then none else f a b (zW zI (c+(1:Int))) (d++ [((ah a c.toNat (bs [],bs [],())).1,true)])) else g
def Jc{R:Type}(a b:Int)(c:Int->Int->ae R):ae R:=
 c a b
def Jd{R:Type}(a:Int->Int->ae R):ae R:=
 a 0 0
def T1:Nat->dD->Int->Int->tJ->ae (Sum (Int×Int) Unit)
 |0,_,_,_,_=>none
 |k+1,v0,v1,v2,v3=>Jb v0 v1 v2 v3 (λa0 a1=>some (.inl (a0,a1))) (λa0 a1 a2 a3=>T1 k a0 a1 a2 a3) (some (.inr ()))
def L2(a:dD):ae (Int×Int):=
 Y9 a (λa0 a1=>some (a0,a1)) (λa0 a1 a2 a3=>(T1 bG a0 a1 a2 a3).bind λe=>aI (λ(we:(Int×Int))=>Jc we.1 we.2 (λa0 a1=>some (a0,a1))) (λ(we:Unit)=>Jd (λa0 a1=>some (a0,a1))) e)
def Y6{R:Type}(a:dD)(b:af)(c:af->dD->Int->Int->ae R):ae R:=
 c b a ((ag a):Int) 0
def I7{R:Type}(a:af)(b:dD)(c d:Int)(e:af->Bool->ae R)(f:af->dD->Int->Int->ae R)(g:ae R):ae R:=
 bif d<c then zd d (ag b) (bif(ah b d.toNat (bs [],bs [],())).1=a then e (ah b d.toNat (bs [],bs [],())).2.1 true else f a b c (zW zI (d+1))) else g
def I8{R:Type}(a:af)(b:Bool)(c:af->Bool->ae R):ae R:=
 c a b
def I9{R:Type}(a:af->Bool->ae R):ae R:=
 a (bs []) false
def TZ:Nat->af->dD->Int->Int->ae (Sum sc Unit)
 |0,_,_,_,_=>none
 |k+1,v0,v1,v2,v3=>I7 v0 v1 v2 v3 (λa0 a1=>some (.inl (a0,a1))) (λa0 a1 a2 a3=>TZ k a0 a1 a2 a3) (some (.inr ()))
def L1(a:dD)(b:af):ae sc:=
 Y6 a b (λa0 a1 a2 a3=>(TZ bG a0 a1 a2 a3).bind λe=>aI (λ(we:sc)=>I8 we.1 we.2 (λa0 a1=>some (a0,a1))) (λ(we:Unit)=>I9 (λa0 a1=>some (a0,a1))) e)
def Je{R:Type}(a:dD)(b:dD->dD->Int->Int->ae R):ae R:=
 bif 0<=((ag a):Int) then bif((ag a):Int)*32<=140737488355328 then b [] a ((ag a):Int) 0 else none else none
def Jf{R:Type}(a b:dD)(c d:Int)(e:dD->dD->Int->Int->ae R)(f:dD->ae R):ae R:=
 bif d<c then zd d (ag b) (bif(ag a+ag ([((ah b d.toNat (bs [],bs [],())).2.1,(ah b d.toNat (bs [],bs [],())).1,())]:List gW))*32<=140737488355328 then e (a++([((ah b d.toNat (bs [],bs [],())).2.1,(ah b d.toNat (bs [],bs [],())).1,())]:List gW)) b c (zW zI (d+1)) else none) else f a
def z116{R:Type}(a:dD)(b:dD->ae R):ae R:=
 b a
def Zd:Nat->dD->dD->Int->Int->ae dD
 |0,_,_,_,_=>none
 |k+1,v0,v1,v2,v3=>Jf v0 v1 v2 v3 (λa0 a1 a2 a3=>Zd k a0 a1 a2 a3) (λa0=>some a0)
def Us(a:dD):ae dD:=
 Je a (λa0 a1 a2 a3=>(Zd bG a0 a1 a2 a3).bind λe=>z116 e (λa0=>some a0))
def Jh{R:Type}(a:dQ->ae R):ae R:=
 (BP ([2,3,4,7,11,12,14,23,32,35,37,38,41,42,49,52,55,64,70,102,128]:List Int)).bind λr1=>a r1
def L3:ae dQ:=
 Jh (λa0=>some a0)
def Ji{R:Type}(a b c:Int)(d:dR->ae R):ae R:=
 d (a,b,1,c,c,())
def nP(a b c:Int):ae dR:=
 Ji a b c (λa0=>some a0)
def Jg{R:Type}(a:bC->ae R):ae R:=
 (nP 3 1 (6:Int)).bind λr1=>(nP 4 1 (12:Int)).bind λr2=>(nP 7 1 (10:Int)).bind λr3=>(nP 11 1 (6:Int)).bind λr4=>(nP 12 1 (6:Int)).bind λr5=>(nP 13 1 (4:Int)).bind λr6=>(nP 14 1 (4:Int)).bind λr7=>(nP 18 1 (4:Int)).bind λr8=>(nP 22 1 (3:Int)).bind λr9=>(nP 23 1 (3:Int)).bind λqZ=>(nP 37 3 (12:Int)).bind λtn=>(nP 38 3 (6:Int)).bind λuz=>(nP 39 3 (2:Int)).bind λsF=>(nP 41 4 (8:Int)).bind λvd=>(nP 42 4 (15:Int)).bind λve=>(nP 43 4 (40:Int)).bind λAs=>(nP 49 1 (3:Int)).bind λAt=>(nP 52 5 (8:Int)).bind λCH=>(nP 64 5 (8:Int)).bind λxQ=>(nP 70 1 (3:Int)).bind λE2=>(nP 90 1 (42:Int)).bind λCI=>(nP 128 5 (8:Int)).bind λIU=>a (1,0,([(2,1,2,12,19,()),r1,r2,r3,r4,r5,r6,r7,r8,r9,qZ,(32,1,2,1,11,()),(35,4,2,1,37,()),tn,uz,sF,vd,ve,As,(48,4,3,1,999,()),At,CH,(55,6,3,1,255,()),xQ,E2,CI,(102,4,2,1,28,()),IU]:List dR),())
def Q23:ae bC:=
 Jg (λa0=>some a0)
def z119{R:Type}(a:bC->ae R):ae R:=
 (nP 3 1 (6:Int)).bind λr1=>(nP 4 1 (12:Int)).bind λr2=>(nP 7 1 (10:Int)).bind λr3=>(nP 11 1 (6:Int)).bind λr4=>(nP 12 1 (12:Int)).bind λr5=>(nP 14 1 (4:Int)).bind λr6=>(nP 22 3 (12:Int)).bind λr7=>(nP 23 1 (3:Int)).bind λr8=>(nP 26 1 (4:Int)).bind λr9=>(nP 37 3 (12:Int)).bind λqZ=>(nP 38 3 (6:Int)).bind λtn=>(nP 39 1 (3:Int)).bind λuz=>(nP 41 4 (8:Int)).bind λsF=>(nP 42 4 (15:Int)).bind λvd=>(nP 49 1 (3:Int)).bind λve=>(nP 52 5 (8:Int)).bind λAs=>(nP 64 5 (8:Int)).bind λAt=>(nP 70 1 (3:Int)).bind λCH=>(nP 128 5 (8:Int)).bind λxQ=>a (2,1,([(2,1,2,12,19,()),r1,r2,r3,r4,r5,r6,r7,r8,r9,(32,1,2,1,11,()),(35,4,2,1,37,()),qZ,tn,uz,sF,vd,(43,4,2,1,99,()),(48,4,3,1,999,()),ve,As,(55,6,3,1,255,()),At,CH,(102,4,2,1,28,()),xQ]:List dR),())
def Q24:ae bC:=
 z119 (λa0=>some a0)
def ZM{R:Type}(a:Int)(b:Int->ae R)(c:Int->bP->ae R):ae R:=
 bif a<1 then b 5 else bif 65535<a then b 5 else c 0 (a,false,[],())
def Mf(a:Int):ae (Sum Int Ei):=
 ZM a (λa0=>some (.inl a0)) (λa0 a1=>some (.inr (a0,a1)))
def ZL{R:Type}(a:bP)(b:Int->bP->ae R):ae R:=
 bif((ag a.2.2.1):Int)<2 then b 0 a else zd 0 (ag a.2.2.1) (zd 1 (ag a.2.2.1) (b (dv .or .i64 (zW zI (zW zI (ah a.2.2.1 ((0:Int)).toNat 0)*2^min ((8:Int)).toNat 64)) (zW zI (ah a.2.2.1 ((1:Int)).toNat 0))) a))
def Md(a:bP):ae Ei:=
 ZL a (λa0 a1=>some (a0,a1))
def ZI{R:Type}(a:bP)(b:af)(c:af->(List af)->Int->bP->ae R):ae R:=
 c b [] 0 a
def T6{R:Type}(a:af)(b:(List af))(c:Int)(d:bP)(e:(List af)->Bool->(List af)->bP->ae R)(f:af->(List af)->Int->bP->ae R)(g:(List af)->bP->ae R):ae R:=
 bif c<(a.size:Int) then bif !d.2.1 then zd c a.size (bif(ag d.2.2.1+ag ([(ze a c.toNat)]:List Int))*1<=140737488355328 then(Md (d.1,d.2.1,d.2.2.1++([(ze a c.toNat)]:List Int),())).bind λr1=>bif((ag r1.2.2.2.1):Int)=2 then bif r1.1=0 then e b true b (r1.2.1,true,[],()) else bif r1.2.1<r1.1 then e b true b (r1.2.1,true,[],()) else bif((ag r1.2.2.2.1):Int)=zW zI (2+r1.1) then bif 0<r1.1 then bif 2<=(((ag r1.2.2.2.1):Nat):Int) then bif(ag b+ag ([(strOf (bu ((2:Int)).toNat (aJ (ag r1.2.2.2.1) r1.2.2.2.1)))]:List af))*16<=140737488355328 then f a (b++([(strOf (bu ((2:Int)).toNat (aJ (ag r1.2.2.2.1) r1.2.2.2.1)))]:List af)) (zW zI (c+1)) (r1.2.1,r1.2.2.1,[],()) else none else none else f a b (zW zI (c+1)) r1.2 else f a b (zW zI (c+1)) r1.2 else bif((ag r1.2.2.2.1):Int)=zW zI (2+r1.1) then bif 0<r1.1 then bif 2<=(((ag r1.2.2.2.1):Nat):Int) then bif(ag b+ag ([(strOf (bu ((2:Int)).toNat (aJ (ag r1.2.2.2.1) r1.2.2.2.1)))]:List af))*16<=140737488355328 then f a (b++([(strOf (bu ((2:Int)).toNat (aJ (ag r1.2.2.2.1) r1.2.2.2.1)))]:List af)) (zW zI (c+1)) (r1.2.1,r1.2.2.1,[],()) else none else none else f a b (zW zI (c+1)) r1.2 else f a b (zW zI (c+1)) r1.2 else none) else g b d else g b d
def ZJ{R:Type}(a:(List af))(b:Bool)(c:(List af))(d:bP)(e:(List af)->Bool->bP->ae R):ae R:=
 e a b d
def ZK{R:Type}(a:(List af))(b:bP)(c:(List af)->Bool->bP->ae R):ae R:=
 c a false b
def Kr:Nat->af->(List af)->Int->bP->ae (Sum ((List af)×Bool×(List af)×bP) ((List af)×bP))
 |0,_,_,_,_=>none
 |k+1,v0,v1,v2,v3=>T6 v0 v1 v2 v3 (λa0 a1 a2 a3=>some (.inl (a0,a1,a2,a3))) (λa0 a1 a2 a3=>Kr k a0 a1 a2 a3) (λa0 a1=>some (.inr (a0,a1)))
def HZ(a:bP)(b:af):ae ((List af)×Bool×bP):=
 ZI a b (λa0 a1 a2 a3=>(Kr bG a0 a1 a2 a3).bind λe=>aI (λ(we:((List af)×Bool×(List af)×bP))=>ZJ we.1 we.2.1 we.2.2.1 we.2.2.2 (λa0 a1 a2=>some (a0,a1,a2))) (λ(we:((List af)×bP))=>ZK we.1 we.2 (λa0 a1 a2=>some (a0,a1,a2))) e)
def ZN{R:Type}(a:af)(b:af->Int->ae R):ae R:=
 bif(a.size:Int)<1 then b (bs []) 5 else bif 65535<(a.size:Int) then b (bs []) 5 else bif(strOf ([(zW zU (aX (a.size:Int) (2^min ((8:Int)).toNat 64))),(zW zU (a.size:Int))]:List Int)).size+a.size<=9223372036854775807 then b (strOf ([(zW zU (aX (a.size:Int) (2^min ((8:Int)).toNat 64))),(zW zU (a.size:Int))]:List Int)++a) 0 else none
def H0(a:af):ae Ni:=
 ZN a (λa0 a1=>some (a0,a1))
def zu2{R:Type}(a:dF)(b:fO->Int->Int->dF->dF->ae R):ae R:=
 (Us a.1).bind λr1=>b a.2.1 ((ag a.2.1):Int) 0 ([],[],()) (r1,[],())
def zu3{R:Type}(a:fO)(b c:Int)(d e:dF)(f:fO->Int->Int->dF->dF->ae R)(g:dF->dF->ae R):ae R:=
 bif c<b then zd c (ag a) ((Us (ah a c.toNat (0,0,0,bs [],[],())).2.2.2.2.1).bind λr2=>bif(ag e.2.1+ag ([((ah a c.toNat ((0:Int),(0:Int),(0:Int),bs [],([]:List gW),())).1,(ah a c.toNat ((0:Int),(0:Int),(0:Int),bs [],([]:List gW),())).2.2.1,(ah a c.toNat ((0:Int),(0:Int),(0:Int),bs [],([]:List gW),())).2.1,(ah a c.toNat ((0:Int),(0:Int),(0:Int),bs [],([]:List gW),())).2.2.2.1,r2,())]:List dm))*64<=140737488355328 then f a b (zW zI (c+1)) d (e.1,e.2.1++([((ah a c.toNat (0,0,0,bs [],[],())).1,(ah a c.toNat (0,0,0,bs [],[],())).2.2.1,(ah a c.toNat (0,0,0,bs [],[],())).2.1,(ah a c.toNat (0,0,0,bs [],[],())).2.2.2.1,r2,())]:List dm),()) else none) else g d e
def zu4{R:Type}(a b:dF)(c:dF->ae R):ae R:=
 c b
def WD:Nat->fO->Int->Int->dF->dF->ae (dF×dF)
 |0,_,_,_,_,_=>none
 |k+1,v0,v1,v2,v3,v4=>zu3 v0 v1 v2 v3 v4 (λa0 a1 a2 a3 a4=>WD k a0 a1 a2 a3 a4) (λa0 a1=>some (a0,a1))
def Dv(a:dF):ae dF:=
 zu2 a (λa0 a1 a2 a3 a4=>(WD bG a0 a1 a2 a3 a4).bind λe=>zu4 e.1 e.2 (λa0=>some a0))
def WS{R:Type}(a:af)(b:Bool->ae R):ae R:=
 bif(a.size:Int)=4 then(FI a).bind λr1=>b r1 else b false
def xj(a:af):ae Bool:=
 WS a (λa0=>some a0)
def WT{R:Type}(a:af)(b:Int->Bool->ae R):ae R:=
 (xj a).bind λr1=>bif !r1 then b 0 false else zd 0 a.size (b (zW zI (zW zU (ze a ((0:Int)).toNat-48))) true)
def rY(a:af):ae (Int×Bool):=
 WT a (λa0 a1=>some (a0,a1))
def WQ{R:Type}(a:af)(b:Bool->ae R):ae R:=
 (xj a).bind λr1=>bif r1 then zd 2 a.size (bif ze a ((2:Int)).toNat=48 then b true else zd 2 a.size (b (decide (ze a ((2:Int)).toNat=50)))) else b false
def xi(a:af):ae Bool:=
 WQ a (λa0=>some a0)
def WR{R:Type}(a:af)(b:af->Bool->ae R):ae R:=
 (xi a).bind λr1=>bif !r1 then b (bs []) false else bif 2<=(a.size:Int) then zd 2 a.size (bif(a.extract 0 ((2:Int)).toNat).size+(strOf ([(zW zU (ze a ((2:Int)).toNat+1))]:List Int)).size<=9223372036854775807 then bif 3<=(a.size:Int) then bif(a.extract 0 ((2:Int)).toNat++strOf ([(zW zU (ze a ((2:Int)).toNat+1))]:List Int)).size+(a.extract ((3:Int)).toNat a.size).size<=9223372036854775807 then b ((a.extract 0 ((2:Int)).toNat++strOf ([(zW zU (ze a ((2:Int)).toNat+1))]:List Int))++a.extract ((3:Int)).toNat a.size) true else none else none else none) else none
def Br(a:af):ae sc:=
 WR a (λa0 a1=>some (a0,a1))
def Lp{R:Type}(a:bC)(b:Int->Int->ae R)(c:sR->Int->Int->bC->ae R):ae R:=
 bif !decide (a.1=1) then bif !decide (a.1=2) then b 1 (-1:Int) else bif a.2.1<0 then b 7 (-1:Int) else bif 9<a.2.1 then b 7 (-1:Int) else c a.2.2.1 ((ag a.2.2.1):Int) 0 a else bif a.2.1<0 then b 7 (-1:Int) else bif 9<a.2.1 then b 7 (-1:Int) else c a.2.2.1 ((ag a.2.2.1):Int) 0 a
theorem z117{R S:Type}(F:R->ae S)(a)(b)(c):(Lp a b c).bind F=Lp a (λa0 a1=>(b a0 a1).bind F) (λa0 a1 a2 a3=>(c a0 a1 a2 a3).bind F):=by simp only[Lp,dq]
def Tw{R:Type}(a:sR)(b c:Int)(d:bC)(e:Int->Int->ae R)(f:sR->Int->Int->bC->ae R)(g:ae R):ae R:=
 bif c<b then zd c (ag a) ((uK (ah a c.toNat (0,0,0,0,0,()))).bind λr1=>bif !decide (r1=0) then e r1 c else bif 0<c then zd (zW zI (c-1)) (ag d.2.2.1) (bif(ah a c.toNat (0,0,0,0,0,())).1<=(ah d.2.2.1 (zW zI (c-(1:Int))).toNat (0,0,0,0,0,())).1 then e 11 c else f a b (zW zI (c+1)) d) else f a b (zW zI (c+1)) d) else g
def Xv{R:Type}(a b:Int)(c:Int->Int->ae R):ae R:=
 c a b
def Xw{R:Type}(a:Int->Int->ae R):ae R:=
 a 0 0
def Hx:Nat->sR->Int->Int->bC->ae (Sum (Int×Int) Unit)
 |0,_,_,_,_=>none
 |k+1,v0,v1,v2,v3=>Tw v0 v1 v2 v3 (λa0 a1=>some (.inl (a0,a1))) (λa0 a1 a2 a3=>Hx k a0 a1 a2 a3) (some (.inr ()))
def vG(a:bC):ae (Int×Int):=
 Lp a (λa0 a1=>some (a0,a1)) (λa0 a1 a2 a3=>(Hx bG a0 a1 a2 a3).bind λe=>aI (λ(we:(Int×Int))=>Xv we.1 we.2 (λa0 a1=>some (a0,a1))) (λ(we:Unit)=>Xw (λa0 a1=>some (a0,a1))) e)
def Xy{R:Type}(a:bC)(b:Int)(c:Int->sR->Int->Int->dR->ae R):ae R:=
 c b a.2.2.1 ((ag a.2.2.1):Int) 0 (0,0,0,0,0,())
def zvk{R:Type}(a:Int)(b:sR)(c d:Int)(e:dR)(f:Bool->dR->ae R)(g:Int->sR->Int->Int->dR->ae R)(h:dR->ae R):ae R:=
 bif d<c then zd d (ag b) (bif(ah b d.toNat (0,0,0,0,0,())).1=a then f true (ah b d.toNat (0,0,0,0,0,())) else g a b c (zW zI (d+1)) e) else h e
def zvl{R:Type}(a:Bool)(b:dR)(c:dR->Bool->ae R):ae R:=
 c b a
def zvm{R:Type}(a:dR)(b:dR->Bool->ae R):ae R:=
 b (0,0,0,0,0,()) false
def Tx:Nat->Int->sR->Int->Int->dR->ae (Sum (Bool×dR) dR)
 |0,_,_,_,_,_=>none
 |k+1,v0,v1,v2,v3,v4=>zvk v0 v1 v2 v3 v4 (λa0 a1=>some (.inl (a0,a1))) (λa0 a1 a2 a3 a4=>Tx k a0 a1 a2 a3 a4) (λa0=>some (.inr a0))
def oU(a:bC)(b:Int):ae (dR×Bool):=
 Xy a b (λa0 a1 a2 a3 a4=>(Tx bG a0 a1 a2 a3 a4).bind λe=>aI (λ(we:(Bool×dR))=>zvl we.1 we.2 (λa0 a1=>some (a0,a1))) (λ(we:dR)=>zvm we (λa0 a1=>some (a0,a1))) e)
def WJ{R:Type}(a:cC)(b:Int)(c:Int->cN->Int->Int->ae R):ae R:=
 c b a.2.1 ((ag a.2.1):Int) 0
def zub{R:Type}(a:Int)(b:cN)(c d:Int)(e:af->Bool->ae R)(f:Int->cN->Int->Int->ae R)(g:ae R):ae R:=
 bif d<c then zd d (ag b) (bif(ah b d.toNat (0,bs [],())).1=a then e (ah b d.toNat (0,bs [],())).2.1 true else f a b c (zW zI (d+1))) else g
def zuc{R:Type}(a:af)(b:Bool)(c:af->Bool->ae R):ae R:=
 c a b
def zud{R:Type}(a:af->Bool->ae R):ae R:=
 a (bs []) false
def Tl:Nat->Int->cN->Int->Int->ae (Sum sc Unit)
 |0,_,_,_,_=>none
 |k+1,v0,v1,v2,v3=>zub v0 v1 v2 v3 (λa0 a1=>some (.inl (a0,a1))) (λa0 a1 a2 a3=>Tl k a0 a1 a2 a3) (some (.inr ()))
def xh(a:cC)(b:Int):ae sc:=
 WJ a b (λa0 a1 a2 a3=>(Tl bG a0 a1 a2 a3).bind λe=>aI (λ(we:sc)=>zuc we.1 we.2 (λa0 a1=>some (a0,a1))) (λ(we:Unit)=>zud (λa0 a1=>some (a0,a1))) e)
def WO{R:Type}(a:cC)(b:Int)(c:Int->cN->Int->Int->cC->cC->ae R):ae R:=
 c b a.2.1 ((ag a.2.1):Int) 0 (bs [],[],()) (a.1,[],())
def zuh{R:Type}(a:Int)(b:cN)(c d:Int)(e f:cC)(g:Int->cN->Int->Int->cC->cC->ae R)(h:cC->cC->ae R):ae R:=
 bif d<c then zd d (ag b) (bif !decide ((ah b d.toNat (0,bs [],())).1=a) then bif(ag f.2.1+ag ([(ah b d.toNat ((0:Int),bs [],()))]:List eQ))*24<=140737488355328 then g a b c (zW zI (d+1)) e (f.1,f.2.1++([(ah b d.toNat (0,bs [],()))]:List eQ),()) else none else g a b c (zW zI (d+1)) e f) else h e f
def zui{R:Type}(a b:cC)(c:cC->ae R):ae R:=
 c b
def Tn:Nat->Int->cN->Int->Int->cC->cC->ae (cC×cC)
 |0,_,_,_,_,_,_=>none
 |k+1,v0,v1,v2,v3,v4,v5=>zuh v0 v1 v2 v3 v4 v5 (λa0 a1 a2 a3 a4 a5=>Tn k a0 a1 a2 a3 a4 a5) (λa0 a1=>some (a0,a1))
def Bp(a:cC)(b:Int):ae cC:=
 WO a b (λa0 a1 a2 a3 a4 a5=>(Tn bG a0 a1 a2 a3 a4 a5).bind λe=>zui e.1 e.2 (λa0=>some a0))
def zug{R:Type}(a:eQ)(b:Int)(c:Bool->Int->ae R):ae R:=
 c (decide (b<a.1)) b
def Bn(a:eQ)(b:Int):ae (Bool×Int):=
 zug a b (λa0 a1=>some (a0,a1))
def XE{R:Type}(a:cN)(b:Int)(c:cN->Int->Int->Int->ae R):ae R:=
 c a ((ag a):Int) 0 b
def zvs{R:Type}(a:cN)(b c d:Int)(e:Int->Int->ae R)(f:cN->Int->Int->Int->ae R)(g:Int->ae R):ae R:=
 bif c<b then zd c (ag a) ((Bn (ah a c.toNat (0,bs [],())) d).bind λr1=>bif r1.1 then e c r1.2 else f a b (zW zI (c+1)) r1.2) else g d
def zvt{R:Type}(a b:Int)(c:Int->Int->ae R):ae R:=
 c a b
def zvu{R:Type}(a:Int)(b:Int->Int->ae R):ae R:=
 b (-1:Int) a
def TA:Nat->cN->Int->Int->Int->ae (Sum (Int×Int) Int)
 |0,_,_,_,_=>none
 |k+1,v0,v1,v2,v3=>zvs v0 v1 v2 v3 (λa0 a1=>some (.inl (a0,a1))) (λa0 a1 a2 a3=>TA k a0 a1 a2 a3) (λa0=>some (.inr a0))
def BH(a:cN)(b:Int):ae (Int×Int):=
 XE a b (λa0 a1 a2 a3=>(TA bG a0 a1 a2 a3).bind λe=>aI (λ(we:(Int×Int))=>zvt we.1 we.2 (λa0 a1=>some (a0,a1))) (λ(we:Int)=>zvu we (λa0 a1=>some (a0,a1))) e)
def WM{R:Type}(a:cC)(b:Int)(c:af)(d:cC->ae R):ae R:=
 (Bp a b).bind λr1=>(BH r1.2.1 b).bind λr2=>bif r2.1<0 then bif zW zI (((ag r1.2.1):Int)+1)=zW zI (((ag r1.2.1):Int)+1) then bif 0<=zW zI (((ag r1.2.1):Int)+1) then bif zW zI (((ag r1.2.1):Int)+1)*24<=140737488355328 then bif 0<=((ag r1.2.1):Int) then bif((ag r1.2.1):Int)<=(((ag r1.2.1):Nat):Int) then bif ak (zW zI (((ag r1.2.1):Int)+(1:Int))).toNat (ag (aw (zW zI (((ag r1.2.1):Int)+(1:Int))).toNat ((0:Int),bs [],()))) then zd ((ag r1.2.1):Int) (zW zI (((ag r1.2.1):Int)+(1:Int))).toNat (bif bn ((((ag r1.2.1):Int)).toNat+1) (ag (gX (aw (zW zI (((ag r1.2.1):Int)+(1:Int))).toNat ((0:Int),bs [],())) (aJ (zW zI (((ag r1.2.1):Int)+(1:Int))).toNat (bu 0 (aJ (((ag r1.2.1):Int)).toNat r1.2.1))) 0)) then bif 0<=zW zI (((ag r1.2.1):Int)+1) then bif zW zI (((ag r1.2.1):Int)+1)<=(((zW zI (((ag r1.2.1):Int)+(1:Int))).toNat:Nat):Int) then bif 0<=((ag r1.2.1):Int) then bif((ag r1.2.1):Int)<=(((ag r1.2.1):Nat):Int) then bif ak (zW zI (((ag r1.2.1):Int)+(1:Int))).toNat (ag (b8 (gX (aw (zW zI (((ag r1.2.1):Int)+(1:Int))).toNat ((0:Int),bs [],())) (aJ (zW zI (((ag r1.2.1):Int)+(1:Int))).toNat (bu 0 (aJ (((ag r1.2.1):Int)).toNat r1.2.1))) 0) (((ag r1.2.1):Int)).toNat (r2.2,c,()))) then bif bn (zW zI (((ag r1.2.1):Int)+(1:Int))).toNat (zW zI (((ag r1.2.1):Int)+(1:Int))).toNat then bif ak (zW zI (((ag r1.2.1):Int)+(1:Int))).toNat (ag (gX (b8 (gX (aw (zW zI (((ag r1.2.1):Int)+(1:Int))).toNat ((0:Int),bs [],())) (aJ (zW zI (((ag r1.2.1):Int)+(1:Int))).toNat (bu 0 (aJ (((ag r1.2.1):Int)).toNat r1.2.1))) 0) (((ag r1.2.1):Int)).toNat (r2.2,c,())) (aJ ((zW zI (((ag r1.2.1):Int)+(1:Int))).toNat-(zW zI (((ag r1.2.1):Int)+(1:Int))).toNat) (bu (((ag r1.2.1):Int)).toNat (aJ (ag r1.2.1) r1.2.1))) (zW zI (((ag r1.2.1):Int)+(1:Int))).toNat)) then d (a.1,gX (b8 (gX (aw (zW zI (((ag r1.2.1):Int)+(1:Int))).toNat (0,bs [],())) (aJ (zW zI (((ag r1.2.1):Int)+(1:Int))).toNat (bu 0 (aJ (((ag r1.2.1):Int)).toNat r1.2.1))) 0) (((ag r1.2.1):Int)).toNat (r2.2,c,())) (aJ ((zW zI (((ag r1.2.1):Int)+(1:Int))).toNat-(zW zI (((ag r1.2.1):Int)+(1:Int))).toNat) (bu (((ag r1.2.1):Int)).toNat (aJ (ag r1.2.1) r1.2.1))) (zW zI (((ag r1.2.1):Int)+(1:Int))).toNat,()) else none else none else none else none else none else none else none else none) else none else none else none else none else none else none else bif zW zI (((ag r1.2.1):Int)+1)=zW zI (((ag r1.2.1):Int)+1) then bif 0<=zW zI (((ag r1.2.1):Int)+1) then bif zW zI (((ag r1.2.1):Int)+1)*24<=140737488355328 then bif 0<=r2.1 then bif r2.1<=(((ag r1.2.1):Nat):Int) then bif ak (zW zI (((ag r1.2.1):Int)+(1:Int))).toNat (ag (aw (zW zI (((ag r1.2.1):Int)+(1:Int))).toNat ((0:Int),bs [],()))) then zd r2.1 (zW zI (((ag r1.2.1):Int)+(1:Int))).toNat (bif bn (r2.1.toNat+1) (ag (gX (aw (zW zI (((ag r1.2.1):Int)+(1:Int))).toNat ((0:Int),bs [],())) (aJ (zW zI (((ag r1.2.1):Int)+(1:Int))).toNat (bu 0 (aJ r2.1.toNat r1.2.1))) 0)) then bif 0<=zW zI (r2.1+1) then bif zW zI (r2.1+1)<=(((zW zI (((ag r1.2.1):Int)+(1:Int))).toNat:Nat):Int) then bif 0<=r2.1 then bif r2.1<=(((ag r1.2.1):Nat):Int) then bif ak (zW zI (((ag r1.2.1):Int)+(1:Int))).toNat (ag (b8 (gX (aw (zW zI (((ag r1.2.1):Int)+(1:Int))).toNat ((0:Int),bs [],())) (aJ (zW zI (((ag r1.2.1):Int)+(1:Int))).toNat (bu 0 (aJ r2.1.toNat r1.2.1))) 0) r2.1.toNat (r2.2,c,()))) then bif bn (zW zI (r2.1+(1:Int))).toNat (zW zI (((ag r1.2.1):Int)+(1:Int))).toNat then bif ak (zW zI (((ag r1.2.1):Int)+(1:Int))).toNat (ag (gX (b8 (gX (aw (zW zI (((ag r1.2.1):Int)+(1:Int))).toNat ((0:Int),bs [],())) (aJ (zW zI (((ag r1.2.1):Int)+(1:Int))).toNat (bu 0 (aJ r2.1.toNat r1.2.1))) 0) r2.1.toNat (r2.2,c,())) (aJ ((zW zI (((ag r1.2.1):Int)+(1:Int))).toNat-(zW zI (r2.1+(1:Int))).toNat) (bu r2.1.toNat (aJ (ag r1.2.1) r1.2.1))) (zW zI (r2.1+(1:Int))).toNat)) then d (a.1,gX (b8 (gX (aw (zW zI (((ag r1.2.1):Int)+(1:Int))).toNat (0,bs [],())) (aJ (zW zI (((ag r1.2.1):Int)+(1:Int))).toNat (bu 0 (aJ r2.1.toNat r1.2.1))) 0) r2.1.toNat (r2.2,c,())) (aJ ((zW zI (((ag r1.2.1):Int)+(1:Int))).toNat-(zW zI (r2.1+(1:Int))).toNat) (bu r2.1.toNat (aJ (ag r1.2.1) r1.2.1))) (zW zI (r2.1+(1:Int))).toNat,()) else none else none else none else none else none else none else none else none) else none else none else none else none else none else none
def qD(a:cC)(b:Int)(c:af):ae cC:=
 WM a b c (λa0=>some a0)
def WH{R:Type}(a:bC)(b:cC)(c:dQ->ae R)(d:Int->cN->Int->Int->bC->dQ->ae R):ae R:=
 (vG a).bind λr1=>bif !decide (r1.1=0) then c (1,(-1:Int),()) else(rY b.1).bind λr2=>bif !r2.2 then c (7,0,()) else bif !decide (r2.1=a.2.1) then c (7,0,()) else d 0 b.2.1 ((ag b.2.1):Int) 0 a (0,0,())
def zu7{R:Type}(a:Int)(b:cN)(c d:Int)(e:bC)(f:dQ)(g:dQ->ae R)(h:Int->cN->Int->Int->bC->dQ->ae R)(i:dQ->ae R):ae R:=
 bif d<c then zd d (ag b) (bif(ah b d.toNat (0,bs [],())).1<=a then g (11,(ah b d.toNat (0,bs [],())).1,()) else(oU e (ah b d.toNat (0,bs [],())).1).bind λr3=>bif !r3.2 then g (9,(ah b d.toNat (0,bs [],())).1,()) else(gV r3.1 (ah b d.toNat (0,bs [],())).2.1).bind λr4=>bif !decide (r4=0) then g (r4,(ah b d.toNat (0,bs [],())).1,()) else h (ah b d.toNat (0,bs [],())).1 b c (zW zI (d+1)) e f) else i f
def zu8{R:Type}(a:dQ)(b:dQ->ae R):ae R:=
 b a
def zu9{R:Type}(a:dQ)(b:dQ->ae R):ae R:=
 b (0,0,())
def Tk:Nat->Int->cN->Int->Int->bC->dQ->ae (Sum dQ dQ)
 |0,_,_,_,_,_,_=>none
 |k+1,v0,v1,v2,v3,v4,v5=>zu7 v0 v1 v2 v3 v4 v5 (λa0=>some (.inl a0)) (λa0 a1 a2 a3 a4 a5=>Tk k a0 a1 a2 a3 a4 a5) (λa0=>some (.inr a0))
def zE(a:bC)(b:cC):ae dQ:=
 WH a b (λa0=>some a0) (λa0 a1 a2 a3 a4 a5=>(Tk bG a0 a1 a2 a3 a4 a5).bind λe=>aI (λ(we:dQ)=>zu8 we (λa0=>some a0)) (λ(we:dQ)=>zu9 we (λa0=>some a0)) e)
def WL{R:Type}(a:cC)(b:cN->Int->Int->dQ->dQ->ae R):ae R:=
 b a.2.1 ((ag a.2.1):Int) 0 (0,0,()) (0,0,())
def zue{R:Type}(a:cN)(b c:Int)(d e:dQ)(f:cN->Int->Int->dQ->dQ->ae R)(g:dQ->dQ->ae R):ae R:=
 bif c<b then zd c (ag a) ((FM e (ah a c.toNat (0,bs [],())).1).bind λr1=>f a b (zW zI (c+1)) d r1) else g d e
def zuf{R:Type}(a b:dQ)(c:dQ->ae R):ae R:=
 c b
def Tm:Nat->cN->Int->Int->dQ->dQ->ae (dQ×dQ)
 |0,_,_,_,_,_=>none
 |k+1,v0,v1,v2,v3,v4=>zue v0 v1 v2 v3 v4 (λa0 a1 a2 a3 a4=>Tm k a0 a1 a2 a3 a4) (λa0 a1=>some (a0,a1))
def Bm(a:cC):ae dQ:=
 WL a (λa0 a1 a2 a3 a4=>(Tm bG a0 a1 a2 a3 a4).bind λe=>zuf e.1 e.2 (λa0=>some a0))
def XG{R:Type}(a:(List Int))(b:Int)(c:(List Int)->Int->Int->Int->ae R):ae R:=
 c a b ((ag a):Int) 0
def zvw{R:Type}(a:(List Int))(b c d:Int)(e:Int->ae R)(f:(List Int)->Int->Int->Int->ae R)(g:ae R):ae R:=
 bif d<c then zd d (ag a) (bif b=ah a d.toNat 0 then e d else f a b c (zW zI (d+1))) else g
def zvx{R:Type}(a:Int)(b:Int->ae R):ae R:=
 b a
def zvy{R:Type}(a:Int->ae R):ae R:=
 a (-1:Int)
def TB:Nat->(List Int)->Int->Int->Int->ae (Sum Int Unit)
 |0,_,_,_,_=>none
 |k+1,v0,v1,v2,v3=>zvw v0 v1 v2 v3 (λa0=>some (.inl a0)) (λa0 a1 a2 a3=>TB k a0 a1 a2 a3) (some (.inr ()))
def DE(a:(List Int))(b:Int):ae Int:=
 XG a b (λa0 a1 a2 a3=>(TB bG a0 a1 a2 a3).bind λe=>aI (λ(we:Int)=>zvx we (λa0=>some a0)) (λ(we:Unit)=>zvy (λa0=>some a0)) e)
def XA{R:Type}(a:(List Int))(b:Int)(c:Bool->ae R):ae R:=
 (DE a b).bind λr1=>c (decide (0<=r1))
def BG(a:(List Int))(b:Int):ae Bool:=
 XA a b (λa0=>some a0)
def Xe{R:Type}(a:cO)(b:Int)(c:Int->ae R):ae R:=
 zd b (ag a.2.2.1) ((oU a.1 (ah a.2.2.1 b.toNat (0:Int))).bind λr1=>bif !r1.2 then c 9 else bif ah a.2.2.1 b.toNat 0=39 then c 1 else bif 0<=b then bif b<=(((ag a.2.2.1):Nat):Int) then(BG (bu 0 (aJ b.toNat a.2.2.1)) (ah a.2.2.1 b.toNat (0:Int))).bind λr2=>bif r2 then c 10 else c 0 else none else none)
def BA(a:cO)(b:Int):ae Int:=
 Xe a b (λa0=>some a0)
def Xd{R:Type}(a b:eQ)(c:Bool->eQ->ae R):ae R:=
 c (decide (a.1=b.1)) b
def zK(a b:eQ):ae (Bool×eQ):=
 Xd a b (λa0 a1=>some (a0,a1))
def XC{R:Type}(a:cN)(b:eQ)(c:cN->Int->Int->eQ->ae R):ae R:=
 c a ((ag a):Int) 0 b
def zvo{R:Type}(a:cN)(b c:Int)(d:eQ)(e:Int->eQ->ae R)(f:cN->Int->Int->eQ->ae R)(g:eQ->ae R):ae R:=
 bif c<b then zd c (ag a) ((zK (ah a c.toNat (0,bs [],())) d).bind λr1=>bif r1.1 then e c r1.2 else f a b (zW zI (c+1)) r1.2) else g d
def zvp{R:Type}(a:Int)(b:eQ)(c:Int->eQ->ae R):ae R:=
 c a b
def zvq{R:Type}(a:eQ)(b:Int->eQ->ae R):ae R:=
 b (-1:Int) a
def Tz:Nat->cN->Int->Int->eQ->ae (Sum (Int×eQ) eQ)
 |0,_,_,_,_=>none
 |k+1,v0,v1,v2,v3=>zvo v0 v1 v2 v3 (λa0 a1=>some (.inl (a0,a1))) (λa0 a1 a2 a3=>Tz k a0 a1 a2 a3) (λa0=>some (.inr a0))
def DC(a:cN)(b:eQ):ae (Int×eQ):=
 XC a b (λa0 a1 a2 a3=>(Tz bG a0 a1 a2 a3).bind λe=>aI (λ(we:(Int×eQ))=>zvp we.1 we.2 (λa0 a1=>some (a0,a1))) (λ(we:eQ)=>zvq we (λa0 a1=>some (a0,a1))) e)
def Xz{R:Type}(a:cN)(b:eQ)(c:Bool->eQ->ae R):ae R:=
 (DC a b).bind λr1=>c (decide (0<=r1.1)) r1.2
def BF(a:cN)(b:eQ):ae (Bool×eQ):=
 Xz a b (λa0 a1=>some (a0,a1))
def Xc{R:Type}(a:cO)(b:Int)(c:dR)(d:Int->ae R):ae R:=
 zd b (ag a.2.2.2.1) (bif(ah a.2.2.2.1 b.toNat (0,bs [],())).1<0 then d 1 else bif 16<(ah a.2.2.2.1 b.toNat (0,bs [],())).1 then d 1 else bif 0<=b then bif b<=(((ag a.2.2.2.1):Nat):Int) then(BF (bu 0 (aJ b.toNat a.2.2.2.1)) (ah a.2.2.2.1 b.toNat (0,bs [],()))).bind λr1=>bif r1.1 then d 10 else(gV c r1.2.2.1).bind λr2=>d r2 else none else none)
def Bz(a:cO)(b:Int)(c:dR):ae Int:=
 Xc a b c (λa0=>some a0)
def W5{R:Type}(a:cO)(b:Int->Int->Int->ae R)(c:Int->Int->cO->dR->ae R):ae R:=
 (vG a.1).bind λr1=>bif !decide (r1.1=0) then b 1 1 0 else(oU a.1 (39:Int)).bind λr2=>bif !r2.2 then b 9 1 1 else c ((ag a.2.2.1):Int) 0 a r2.1
def Ts{R:Type}(a b:Int)(c:cO)(d:dR)(e:Int->Int->Int->cO->dR->ae R)(f:Int->Int->cO->dR->ae R)(g:cO->dR->ae R):ae R:=
 bif b<a then(BA c b).bind λr3=>bif !decide (r3=0) then e r3 2 b c d else f a (zW zI (b+1)) c d else g c d
def zuq{R:Type}(a b c:Int)(d:cO)(e:dR)(f:Int->Int->Int->ae R):ae R:=
 f a b c
def W6{R:Type}(a:cO)(b:dR)(c:Bool->cN->Int->Int->cO->dR->ae R):ae R:=
 c false a.2.2.2.1 ((ag a.2.2.2.1):Int) 0 a b
def Tt{R:Type}(a:Bool)(b:cN)(c d:Int)(e:cO)(f:dR)(g:Int->Int->Int->Bool->cO->ae R)(h:Bool->cN->Int->Int->cO->dR->ae R)(i:Bool->cO->ae R):ae R:=
 bif d<c then zd d (ag b) ((Bz e d f).bind λr4=>bif !decide (r4=0) then g r4 3 d a e else bif a then h true b c (zW zI (d+1)) e f else h (decide ((ah b d.toNat (0,bs [],())).1=0)) b c (zW zI (d+1)) e f) else i a e
def zur{R:Type}(a b c:Int)(d:Bool)(e:cO)(f:Int->Int->Int->ae R):ae R:=
 f a b c
def W7{R:Type}(a:Bool)(b:cO)(c:Int->Int->Int->ae R):ae R:=
 bif !a then c 15 3 ((ag b.2.2.2.1):Int) else c 0 0 0
def Kb:Nat->Int->Int->cO->dR->ae (Sum (Int×Int×Int×cO×dR) (cO×dR))
 |0,_,_,_,_=>none
 |k+1,v0,v1,v2,v3=>Ts v0 v1 v2 v3 (λa0 a1 a2 a3 a4=>some (.inl (a0,a1,a2,a3,a4))) (λa0 a1 a2 a3=>Kb k a0 a1 a2 a3) (λa0 a1=>some (.inr (a0,a1)))
def Kc:Nat->Bool->cN->Int->Int->cO->dR->ae (Sum (Int×Int×Int×Bool×cO) (Bool×cO))
 |0,_,_,_,_,_,_=>none
 |k+1,v0,v1,v2,v3,v4,v5=>Tt v0 v1 v2 v3 v4 v5 (λa0 a1 a2 a3 a4=>some (.inl (a0,a1,a2,a3,a4))) (λa0 a1 a2 a3 a4 a5=>Kc k a0 a1 a2 a3 a4 a5) (λa0 a1=>some (.inr (a0,a1)))
def Bv(a:cO):ae sC:=
 W5 a (λa0 a1 a2=>some (a0,a1,a2)) (λa0 a1 a2 a3=>(Kb bG a0 a1 a2 a3).bind λe=>aI (λ(we:(Int×Int×Int×cO×dR))=>zuq we.1 we.2.1 we.2.2.1 we.2.2.2.1 we.2.2.2.2 (λa0 a1 a2=>some (a0,a1,a2))) (λ(we:(cO×dR))=>W6 we.1 we.2 (λa0 a1 a2 a3 a4 a5=>(Kc bG a0 a1 a2 a3 a4 a5).bind λe=>aI (λ(we:(Int×Int×Int×Bool×cO))=>zur we.1 we.2.1 we.2.2.1 we.2.2.2.1 we.2.2.2.2 (λa0 a1 a2=>some (a0,a1,a2))) (λ(we:(Bool×cO))=>W7 we.1 we.2 (λa0 a1 a2=>some (a0,a1,a2))) e)) e)
def Xa{R:Type}(a:cO)(b:Int)(c:(List Int)->Int->Int->cO->ae R):ae R:=
 c ([b,0]:List Int) ((ag ([b,(0:Int)]:List Int)):Int) 0 a
def Tu{R:Type}(a:(List Int))(b c:Int)(d:cO)(e:Int->(List Int)->Int->Int->cN->Int->Int->cO->ae R)(f:ae R):ae R:=
 bif c<b then zd c (ag a) (e (ah a c.toNat 0) a b c d.2.2.2.1 ((ag d.2.2.2.1):Int) 0 d) else f
def zuu{R:Type}(a:af->ae R):ae R:=
 a (bs [])
def zuv{R:Type}(a:Int)(b:(List Int))(c d:Int)(e:cN)(f g:Int)(h:cO)(i:af->(List Int)->Int->Int->cO->ae R)(j:Int->(List Int)->Int->Int->cN->Int->Int->cO->ae R)(l:(List Int)->Int->Int->cO->ae R):ae R:=
 bif g<f then zd g (ag e) (bif(ah e g.toNat (0,bs [],())).1=a then i (ah e g.toNat (0,bs [],())).2.1 b c d h else j a b c d e f (zW zI (g+1)) h) else l b c d h
def zuw{R:Type}(a:af)(b:(List Int))(c d:Int)(e:cO)(f:af->ae R):ae R:=
 f a
def Xb{R:Type}(a:(List Int))(b c:Int)(d:cO)(e:(List Int)->Int->Int->cO->ae R):ae R:=
 e a b (zW zI (c+1)) d
def zux{R:Type}(a:af)(b:af->ae R):ae R:=
 b a
def Ln:Nat->Int->(List Int)->Int->Int->cN->Int->Int->cO->ae (Sum (af×(List Int)×Int×Int×cO) ((List Int)×Int×Int×cO))
 |0,_,_,_,_,_,_,_,_=>none
 |k+1,v0,v1,v2,v3,v4,v5,v6,v7=>zuv v0 v1 v2 v3 v4 v5 v6 v7 (λa0 a1 a2 a3 a4=>some (.inl (a0,a1,a2,a3,a4))) (λa0 a1 a2 a3 a4 a5 a6 a7=>Ln k a0 a1 a2 a3 a4 a5 a6 a7) (λa0 a1 a2 a3=>some (.inr (a0,a1,a2,a3)))
def Hw:Nat->(List Int)->Int->Int->cO->ae (Sum Unit af)
 |0,_,_,_,_=>none
 |k+1,v0,v1,v2,v3=>Tu v0 v1 v2 v3 (λa0 a1 a2 a3 a4 a5 a6 a7=>(Ln bG a0 a1 a2 a3 a4 a5 a6 a7).bind λe=>aI (λ(we:(af×(List Int)×Int×Int×cO))=>zuw we.1 we.2.1 we.2.2.1 we.2.2.2.1 we.2.2.2.2 (λa0=>some (.inr a0))) (λ(we:((List Int)×Int×Int×cO))=>Xb we.1 we.2.1 we.2.2.1 we.2.2.2 (λa0 a1 a2 a3=>Hw k a0 a1 a2 a3)) e) (some (.inl ()))
def Bw(a:cO)(b:Int):ae af:=
 Xa a b (λa0 a1 a2 a3=>(Hw bG a0 a1 a2 a3).bind λe=>aI (λ(we:Unit)=>zuu (λa0=>some a0)) (λ(we:af)=>zux we (λa0=>some a0)) e)
def WZ{R:Type}(a:cO)(b:cC)(c:dQ)(d:cC->Bool->ae R)(e:(List Int)->Int->Int->cO->cC->dQ->cC->cC->ae R):ae R:=
 (Br b.1).bind λr1=>bif !r1.2 then d (bs [],[],()) false else e a.2.2.1 ((ag a.2.2.1):Int) 0 a b c (bs [],[],()) (r1.1,[],())
def zun{R:Type}(a:(List Int))(b c:Int)(d:cO)(e:cC)(f:dQ)(g h:cC)(i:(List Int)->Int->Int->cO->cC->dQ->cC->cC->ae R)(j:cO->dQ->cC->cC->ae R):ae R:=
 bif c<b then zd c (ag a) ((xh e (ah a c.toNat (0:Int))).bind λr2=>bif r2.2 then(qD h (ah a c.toNat 0) r2.1).bind λr3=>i a b (zW zI (c+1)) d e f g r3 else i a b (zW zI (c+1)) d e f g h) else j d f g h
def W0{R:Type}(a:cO)(b:dQ)(c d:cC)(e:cC->Bool->ae R):ae R:=
 (Bw a b.1).bind λr4=>(qD d 39 r4).bind λr5=>e r5 true
def Tr:Nat->(List Int)->Int->Int->cO->cC->dQ->cC->cC->ae (cO×dQ×cC×cC)
 |0,_,_,_,_,_,_,_,_=>none
 |k+1,v0,v1,v2,v3,v4,v5,v6,v7=>zun v0 v1 v2 v3 v4 v5 v6 v7 (λa0 a1 a2 a3 a4 a5 a6 a7=>Tr k a0 a1 a2 a3 a4 a5 a6 a7) (λa0 a1 a2 a3=>some (a0,a1,a2,a3))
def Bu(a:cO)(b:cC)(c:dQ):ae (cC×Bool):=
 WZ a b c (λa0 a1=>some (a0,a1)) (λa0 a1 a2 a3 a4 a5 a6 a7=>(Tr bG a0 a1 a2 a3 a4 a5 a6 a7).bind λe=>W0 e.1 e.2.1 e.2.2.1 e.2.2.2 (λa0 a1=>some (a0,a1)))
def XO{R:Type}(a:bC)(b:af)(c:af->Int->Int->ae R):ae R:=
 bif a.1=2 then(Q2 (4:Int)).bind λr1=>bif(b.size:Int)<r1 then c (bs []) 0 2 else bif 0<=r1 then bif r1<=(b.size:Int) then bif a.1=2 then(Q0 (b.extract 0 r1.toNat) (4:Int)).bind λr2=>(rY r2.1).bind λr3=>bif !r3.2 then c (bs []) 0 7 else bif !decide (r3.1=a.2.1) then c (bs []) 0 7 else c r2.1 r1 0 else(rY (b.extract 0 r1.toNat)).bind λr4=>bif !r4.2 then c (bs []) 0 7 else bif !decide (r4.1=a.2.1) then c (bs []) 0 7 else c (b.extract 0 r1.toNat) r1 0 else none else none else bif(b.size:Int)<4 then c (bs []) 0 2 else bif 4<=(b.size:Int) then bif a.1=2 then(Q0 (b.extract 0 ((4:Int)).toNat) (4:Int)).bind λr5=>(rY r5.1).bind λr6=>bif !r6.2 then c (bs []) 0 7 else bif !decide (r6.1=a.2.1) then c (bs []) 0 7 else c r5.1 4 0 else(rY (b.extract 0 ((4:Int)).toNat)).bind λr7=>bif !r7.2 then c (bs []) 0 7 else bif !decide (r7.1=a.2.1) then c (bs []) 0 7 else c (b.extract 0 ((4:Int)).toNat) 4 0 else none
def BI(a:bC)(b:af):ae KI:=
 XO a b (λa0 a1 a2=>some (a0,a1,a2))
def XM{R:Type}(a:bC)(b:af)(c:cC->dQ->ae R)(d:af->Int->Int->bC->cC->dQ->cC->dQ->ae R):ae R:=
 (vG a).bind λr1=>bif !decide (r1.1=0) then c (bs [],[],()) (1,(-1:Int),()) else(BI a b).bind λr2=>bif !decide (r2.2.2=0) then c (bs [],[],()) (r2.2.2,0,()) else(Q5 a.1 b r2.2.1).bind λr3=>bif !decide (r3.2.2=0) then c (r2.1,[],()) (r3.2.2,1,()) else(DI r3.1 (0:Int)).bind λr4=>d b r3.2.1 r4 a (bs [],[],()) (0,0,()) (r2.1,[],()) r3.1
def TC{R:Type}(a:af)(b c:Int)(d:bC)(e:cC)(f:dQ)(g:cC)(h:dQ)(i:af->Int->cC->dQ->cC->ae R)(j:af->Int->Int->bC->cC->dQ->cC->dQ->ae R)(l:af->Int->cC->dQ->cC->ae R):ae R:=
 bif !decide (c=0) then(oU d c).bind λr5=>bif !r5.2 then i a b g (9,c,()) g else(LV d.1 r5.1 a b).bind λr6=>bif !decide (r6.2.2=0) then i a b g (r6.2.2,c,()) g else bif(ag g.2.1+ag ([(c,r6.1,())]:List eQ))*24<=140737488355328 then(DI h c).bind λr7=>j a r6.2.1 r7 d e f (g.1,g.2.1++([(c,r6.1,())]:List eQ),()) h else none else l a b e f g
def zw0{R:Type}(a:af)(b:Int)(c:cC)(d:dQ)(e:cC)(f:cC->dQ->ae R):ae R:=
 f c d
def zw1{R:Type}(a:af)(b:Int)(c:cC)(d:dQ)(e:cC)(f:cC->dQ->ae R):ae R:=
 bif b<(a.size:Int) then f e (12,129,()) else f e (0,0,())
def Ke:Nat->af->Int->Int->bC->cC->dQ->cC->dQ->ae (Sum zS zS)
 |0,_,_,_,_,_,_,_,_=>none
 |k+1,v0,v1,v2,v3,v4,v5,v6,v7=>TC v0 v1 v2 v3 v4 v5 v6 v7 (λa0 a1 a2 a3 a4=>some (.inl (a0,a1,a2,a3,a4))) (λa0 a1 a2 a3 a4 a5 a6 a7=>Ke k a0 a1 a2 a3 a4 a5 a6 a7) (λa0 a1 a2 a3 a4=>some (.inr (a0,a1,a2,a3,a4)))
def xn(a:bC)(b:af):ae (cC×dQ):=
 XM a b (λa0 a1=>some (a0,a1)) (λa0 a1 a2 a3 a4 a5 a6 a7=>(Ke bG a0 a1 a2 a3 a4 a5 a6 a7).bind λe=>aI (λ(we:zS)=>zw0 we.1 we.2.1 we.2.2.1 we.2.2.2.1 we.2.2.2.2 (λa0 a1=>some (a0,a1))) (λ(we:zS)=>zw1 we.1 we.2.1 we.2.2.1 we.2.2.2.1 we.2.2.2.2 (λa0 a1=>some (a0,a1))) e)
def X8{R:Type}(a:Int)(b:af)(c:af->Bool->ae R):ae R:=
 (xj b).bind λr1=>bif !r1 then c (bs []) false else bif a=1 then c b true else bif a=2 then(Q1 b).bind λr2=>c r2.1 r2.2 else c (bs []) false
def BN(a:Int)(b:af):ae sc:=
 X8 a b (λa0 a1=>some (a0,a1))
def X7{R:Type}(a b:af)(c:af->ae R):ae R:=
 (z24 b a).bind λr1=>c r1.2
def sP(a b:af):ae af:=
 X7 a b (λa0=>some a0)
def X6{R:Type}(a:bC)(b:cC)(c:af->dQ->ae R)(d:cN->Int->Int->bC->dQ->af->ae R):ae R:=
 (zE a b).bind λr1=>bif !decide (r1.1=0) then c (bs []) r1 else(BN a.1 b.1).bind λr2=>(sP r2.1 (bs [])).bind λr3=>(Bm b).bind λr4=>(Q6 a.1 r4).bind λr5=>(sP r5.1 r3).bind λr6=>d b.2.1 ((ag b.2.1):Int) 0 a (0,0,()) r6
def zw6{R:Type}(a:cN)(b c:Int)(d:bC)(e:dQ)(f:af)(g:cN->Int->Int->bC->dQ->af->ae R)(h:dQ->af->ae R):ae R:=
 bif c<b then zd c (ag a) ((oU d (ah a c.toNat (0,bs [],())).1).bind λr7=>(HP d.1 r7.1 (ah a c.toNat (0,bs [],())).2.1).bind λr8=>(sP r8.1 f).bind λr9=>g a b (zW zI (c+1)) d e r9) else h e f
def zw7{R:Type}(a:dQ)(b:af)(c:af->dQ->ae R):ae R:=
 (z5h b).bind λqZ=>c qZ.1 (0,0,())
def TD:Nat->cN->Int->Int->bC->dQ->af->ae (dQ×af)
 |0,_,_,_,_,_,_=>none
 |k+1,v0,v1,v2,v3,v4,v5=>zw6 v0 v1 v2 v3 v4 v5 (λa0 a1 a2 a3 a4 a5=>TD k a0 a1 a2 a3 a4 a5) (λa0 a1=>some (a0,a1))
def vI(a:bC)(b:cC):ae (af×dQ):=
 X6 a b (λa0 a1=>some (a0,a1)) (λa0 a1 a2 a3 a4 a5=>(TD bG a0 a1 a2 a3 a4 a5).bind λe=>zw7 e.1 e.2 (λa0 a1=>some (a0,a1)))
def Xp{R:Type}(a:dm)(b c:bC)(d:dR->dR->Int->ae R):ae R:=
 (oU b a.2.1).bind λr1=>(oU c a.2.2.1).bind λr2=>bif a.1=3 then bif a.1=2 then bif !decide (a.2.1=0) then d r1.1 r2.1 9 else bif !decide (a.2.2.1=0) then d r1.1 r2.1 9 else d r1.1 r2.1 0 else bif !decide (a.2.1=0) then d r1.1 r2.1 9 else bif !r2.2 then d r1.1 r2.1 9 else d r1.1 r2.1 0 else bif a.1=2 then bif !r1.2 then d r1.1 r2.1 9 else bif !decide (a.2.2.1=0) then d r1.1 r2.1 9 else d r1.1 r2.1 0 else bif !r1.2 then d r1.1 r2.1 9 else bif !r2.2 then d r1.1 r2.1 9 else d r1.1 r2.1 0
def BE(a:dm)(b c:bC):ae (dR×dR×Int):=
 Xp a b c (λa0 a1 a2=>some (a0,a1,a2))
def Xq{R:Type}(a:dR)(b:Bool->ae R):ae R:=
 bif a.2.1=1 then b (decide (a.2.2.1=1)) else b false
def rZ(a:dR):ae Bool:=
 Xq a (λa0=>some a0)
def Xt{R:Type}(a:dD)(b c:dR)(d:Int->ae R)(e:dD->Int->Int->dR->dR->ae R):ae R:=
 (L2 a).bind λr1=>bif !decide (r1.1=0) then d 15 else bif((ag a):Int)=0 then d 15 else e a ((ag a):Int) 0 b c
def zvf{R:Type}(a:dD)(b c:Int)(d e:dR)(f:Int->ae R)(g:dD->Int->Int->dR->dR->ae R)(h:ae R):ae R:=
 bif c<b then zd c (ag a) ((gV d (ah a c.toNat (bs [],bs [],())).1).bind λr2=>bif !decide (r2=0) then f r2 else(gV e (ah a c.toNat (bs [],bs [],())).2.1).bind λr3=>bif !decide (r3=0) then f r3 else g a b (zW zI (c+1)) d e) else h
def zvg{R:Type}(a:Int)(b:Int->ae R):ae R:=
 b a
def zvh{R:Type}(a:Int->ae R):ae R:=
 a 0
def Tv:Nat->dD->Int->Int->dR->dR->ae (Sum Int Unit)
 |0,_,_,_,_,_=>none
 |k+1,v0,v1,v2,v3,v4=>zvf v0 v1 v2 v3 v4 (λa0=>some (.inl a0)) (λa0 a1 a2 a3 a4=>Tv k a0 a1 a2 a3 a4) (some (.inr ()))
def vF(a:dD)(b c:dR):ae Int:=
 Xt a b c (λa0=>some a0) (λa0 a1 a2 a3 a4=>(Tv bG a0 a1 a2 a3 a4).bind λe=>aI (λ(we:Int)=>zvg we (λa0=>some a0)) (λ(we:Unit)=>zvh (λa0=>some a0)) e)
def Xo{R:Type}(a:dm)(b c:bC)(d:Int->ae R):ae R:=
 bif a.1<1 then d 1 else bif 5<a.1 then d 1 else(BE a b c).bind λr1=>bif !decide (r1.2.2=0) then d r1.2.2 else bif !decide (a.2.2.2.1=bs []) then bif !decide (a.1=3) then d 3 else bif 0<((ag a.2.2.2.2.1):Int) then bif !decide (a.1=5) then d 3 else bif a.1=1 then(uL r1.2.1 r1.1).bind λr2=>bif !r2 then d 6 else d 0 else bif a.1=3 then(gV r1.2.1 a.2.2.2.1).bind λr3=>d r3 else bif a.1=4 then(rZ r1.1).bind λr4=>bif !r4 then d 6 else(rZ r1.2.1).bind λr5=>bif !r5 then d 6 else d 0 else bif a.1=5 then(vF a.2.2.2.2.1 r1.1 r1.2.1).bind λr6=>d r6 else d 0 else bif a.1=1 then(uL r1.2.1 r1.1).bind λr7=>bif !r7 then d 6 else d 0 else bif a.1=3 then(gV r1.2.1 a.2.2.2.1).bind λr8=>d r8 else bif a.1=4 then(rZ r1.1).bind λr9=>bif !r9 then d 6 else(rZ r1.2.1).bind λqZ=>bif !qZ then d 6 else d 0 else bif a.1=5 then(vF a.2.2.2.2.1 r1.1 r1.2.1).bind λtn=>d tn else d 0 else bif 0<((ag a.2.2.2.2.1):Int) then bif !decide (a.1=5) then d 3 else bif a.1=1 then(uL r1.2.1 r1.1).bind λuz=>bif !uz then d 6 else d 0 else bif a.1=3 then(gV r1.2.1 a.2.2.2.1).bind λsF=>d sF else bif a.1=4 then(rZ r1.1).bind λvd=>bif !vd then d 6 else(rZ r1.2.1).bind λve=>bif !ve then d 6 else d 0 else bif a.1=5 then(vF a.2.2.2.2.1 r1.1 r1.2.1).bind λAs=>d As else d 0 else bif a.1=1 then(uL r1.2.1 r1.1).bind λAt=>bif !At then d 6 else d 0 else bif a.1=3 then(gV r1.2.1 a.2.2.2.1).bind λCH=>d CH else bif a.1=4 then(rZ r1.1).bind λxQ=>bif !xQ then d 6 else(rZ r1.2.1).bind λE2=>bif !E2 then d 6 else d 0 else bif a.1=5 then(vF a.2.2.2.2.1 r1.1 r1.2.1).bind λCI=>d CI else d 0
def xm(a:dm)(b c:bC):ae Int:=
 Xo a b c (λa0=>some a0)
def Xn{R:Type}(a:dm)(b:bC)(c:af)(d:eQ->Int->ae R):ae R:=
 bif a.1=1 then d (a.2.2.1,c,()) 0 else bif a.1=2 then d (0,bs [],()) 0 else bif a.1=3 then d (a.2.2.1,a.2.2.2.1,()) 0 else bif a.1=4 then(oU b a.2.2.1).bind λr1=>bif !r1.2 then d (0,bs [],()) 9 else(L5 c r1.1.2.2.2.1).bind λr2=>bif !r2.2 then d (0,bs [],()) 5 else d (a.2.2.1,r2.1,()) 0 else bif a.1=5 then(L1 a.2.2.2.2.1 c).bind λr3=>bif !r3.2 then d (0,bs [],()) 15 else d (a.2.2.1,r3.1,()) 0 else d (0,bs [],()) 1
def xl(a:dm)(b:bC)(c:af):ae (eQ×Int):=
 Xn a b c (λa0 a1=>some (a0,a1))
def Yo{R:Type}(a:gW)(b c:bC)(d:Bool->ae R):ae R:=
 (rY a.1).bind λr1=>(rY a.2.1).bind λr2=>bif r1.2 then bif r2.2 then bif r1.1=b.2.1 then bif r2.1=c.2.1 then(xi a.1).bind λr3=>(xi a.2.1).bind λr4=>d (r3==r4) else d false else d false else d false else d false
def xr(a:gW)(b c:bC):ae Bool:=
 Yo a b c (λa0=>some a0)
def Yc{R:Type}(a:dF)(b c:bC)(d:BV->Int->Int->dF->bC->bC->ae R):ae R:=
 d ([b,c]:List bC) ((ag ([b,c]:List bC)):Int) 0 a b c
def Yd{R:Type}(a:BV)(b c:Int)(d:dF)(e f:bC)(g:Int->Int->Int->dF->bC->bC->ae R)(h:BV->Int->Int->dF->bC->bC->ae R)(i:dF->bC->bC->ae R):ae R:=
 bif c<b then zd c (ag a) ((vG (ah a c.toNat (0,0,[],()))).bind λr1=>bif !decide (r1.1=0) then g 1 1 c d e f else h a b (zW zI (c+1)) d e f) else i d e f
def zwb{R:Type}(a b c:Int)(d:dF)(e f:bC)(g:Int->Int->Int->ae R):ae R:=
 g a b c
def Ye{R:Type}(a:dF)(b c:bC)(d:Int->Int->Int->ae R)(e:dD->Int->Int->dF->bC->bC->tJ->ae R):ae R:=
 bif 256<((ag a.1):Int) then d 5 2 256 else e a.1 ((ag a.1):Int) 0 a b c []
def zwc{R:Type}(a:dD)(b c:Int)(d:dF)(e f:bC)(g:tJ)(h:Int->Int->Int->dF->bC->bC->ae R)(i:dD->Int->Int->dF->bC->bC->tJ->ae R)(j:dF->bC->bC->ae R):ae R:=
 bif c<b then zd c (ag a) ((xr (ah a c.toNat (bs [],bs [],())) e f).bind λr2=>bif !r2 then h (7:Int) (2:Int) c d e f else bif n7 (pf .str) false g (ah a c.toNat (bs [],bs [],())).1 then h (10:Int) (2:Int) c d e f else bif n8 (pf .str) g (ah a c.toNat (bs [],bs [],())).1 then none else i a b (zW zI (c+(1:Int))) d e f (g++ [((ah a c.toNat (bs [],bs [],())).1,true)])) else j d e f
def zwd{R:Type}(a b c:Int)(d:dF)(e f:bC)(g:Int->Int->Int->ae R):ae R:=
 g a b c
def Yf{R:Type}(a:dF)(b c:bC)(d:Int->Int->Int->ae R)(e:fO->Int->Int->bC->bC->dQ->dQ->ae R):ae R:=
 bif 256<((ag a.2.1):Int) then d 5 3 256 else e a.2.1 ((ag a.2.1):Int) 0 b c (0,0,()) (0,0,())
def zwe{R:Type}(a:fO)(b c:Int)(d e:bC)(f g:dQ)(h:Int->Int->Int->ae R)(i:fO->Int->Int->bC->bC->dQ->dQ->ae R)(j:ae R):ae R:=
 bif c<b then zd c (ag a) ((xm (ah a c.toNat (0,0,0,bs [],[],())) d e).bind λr3=>bif !decide (r3=0) then h r3 3 c else(BP ([(ah a c.toNat (0,0,0,bs [],[],())).2.1]:List Int)).bind λr4=>(BP ([(ah a c.toNat (0,0,0,bs [],[],())).2.2.1]:List Int)).bind λr5=>(AN f r4).bind λr6=>bif !(decide (r6.1=0)&&(decide (r6.2.1=0)&&true)) then h 10 3 c else(AN g r5).bind λr7=>bif !(decide (r7.1=0)&&(decide (r7.2.1=0)&&true)) then h 10 3 c else(BQ f r4).bind λr8=>(BQ g r5).bind λr9=>i a b (zW zI (c+1)) d e r8 r9) else j
def zwf{R:Type}(a b c:Int)(d:Int->Int->Int->ae R):ae R:=
 d a b c
def zwg{R:Type}(a:Int->Int->Int->ae R):ae R:=
 a 0 0 0
def Lt:Nat->BV->Int->Int->dF->bC->bC->ae (Sum vO vN)
 |0,_,_,_,_,_,_=>none
 |k+1,v0,v1,v2,v3,v4,v5=>Yd v0 v1 v2 v3 v4 v5 (λa0 a1 a2 a3 a4 a5=>some (.inl (a0,a1,a2,a3,a4,a5))) (λa0 a1 a2 a3 a4 a5=>Lt k a0 a1 a2 a3 a4 a5) (λa0 a1 a2=>some (.inr (a0,a1,a2)))
def Lu:Nat->dD->Int->Int->dF->bC->bC->tJ->ae (Sum vO vN)
 |0,_,_,_,_,_,_,_=>none
 |k+1,v0,v1,v2,v3,v4,v5,v6=>zwc v0 v1 v2 v3 v4 v5 v6 (λa0 a1 a2 a3 a4 a5=>some (.inl (a0,a1,a2,a3,a4,a5))) (λa0 a1 a2 a3 a4 a5 a6=>Lu k a0 a1 a2 a3 a4 a5 a6) (λa0 a1 a2=>some (.inr (a0,a1,a2)))
def TE:Nat->fO->Int->Int->bC->bC->dQ->dQ->ae (Sum sC Unit)
 |0,_,_,_,_,_,_,_=>none
 |k+1,v0,v1,v2,v3,v4,v5,v6=>zwe v0 v1 v2 v3 v4 v5 v6 (λa0 a1 a2=>some (.inl (a0,a1,a2))) (λa0 a1 a2 a3 a4 a5 a6=>TE k a0 a1 a2 a3 a4 a5 a6) (some (.inr ()))
def zM(a:dF)(b c:bC):ae sC:=
 Yc a b c (λa0 a1 a2 a3 a4 a5=>(Lt bG a0 a1 a2 a3 a4 a5).bind λe=>aI (λ(we:vO)=>zwb we.1 we.2.1 we.2.2.1 we.2.2.2.1 we.2.2.2.2.1 we.2.2.2.2.2 (λa0 a1 a2=>some (a0,a1,a2))) (λ(we:vN)=>Ye we.1 we.2.1 we.2.2 (λa0 a1 a2=>some (a0,a1,a2)) (λa0 a1 a2 a3 a4 a5 a6=>(Lu bG a0 a1 a2 a3 a4 a5 a6).bind λe=>aI (λ(we:vO)=>zwd we.1 we.2.1 we.2.2.1 we.2.2.2.1 we.2.2.2.2.1 we.2.2.2.2.2 (λa0 a1 a2=>some (a0,a1,a2))) (λ(we:vN)=>Yf we.1 we.2.1 we.2.2 (λa0 a1 a2=>some (a0,a1,a2)) (λa0 a1 a2 a3 a4 a5 a6=>(TE bG a0 a1 a2 a3 a4 a5 a6).bind λe=>aI (λ(we:sC)=>zwf we.1 we.2.1 we.2.2 (λa0 a1 a2=>some (a0,a1,a2))) (λ(we:Unit)=>zwg (λa0 a1 a2=>some (a0,a1,a2))) e)) e)) e)
def Yn{R:Type}(a:dF)(b:af)(c:af->dD->Int->Int->ae R):ae R:=
 c b a.1 ((ag a.1):Int) 0
def zwr{R:Type}(a:af)(b:dD)(c d:Int)(e:af->Bool->ae R)(f:af->dD->Int->Int->ae R)(g:ae R):ae R:=
 bif d<c then zd d (ag b) (bif(ah b d.toNat (bs [],bs [],())).1=a then e (ah b d.toNat (bs [],bs [],())).2.1 true else f a b c (zW zI (d+1))) else g
def zws{R:Type}(a:af)(b:Bool)(c:af->Bool->ae R):ae R:=
 c a b
def zwt{R:Type}(a:af->Bool->ae R):ae R:=
 a (bs []) false
def TI:Nat->af->dD->Int->Int->ae (Sum sc Unit)
 |0,_,_,_,_=>none
 |k+1,v0,v1,v2,v3=>zwr v0 v1 v2 v3 (λa0 a1=>some (.inl (a0,a1))) (λa0 a1 a2 a3=>TI k a0 a1 a2 a3) (some (.inr ()))
def BO(a:dF)(b:af):ae sc:=
 Yn a b (λa0 a1 a2 a3=>(TI bG a0 a1 a2 a3).bind λe=>aI (λ(we:sc)=>zws we.1 we.2 (λa0 a1=>some (a0,a1))) (λ(we:Unit)=>zwt (λa0 a1=>some (a0,a1))) e)
def Yl{R:Type}(a:dF)(b:Int)(c:Int->fO->Int->Int->dm->ae R):ae R:=
 c b a.2.1 ((ag a.2.1):Int) 0 (0,0,0,bs [],[],())
def zwn{R:Type}(a:Int)(b:fO)(c d:Int)(e:dm)(f:Bool->dm->ae R)(g:Int->fO->Int->Int->dm->ae R)(h:dm->ae R):ae R:=
 bif d<c then zd d (ag b) (bif(ah b d.toNat (0,0,0,bs [],[],())).2.1=a then f true (ah b d.toNat (0,0,0,bs [],[],())) else g a b c (zW zI (d+1)) e) else h e
def zwo{R:Type}(a:Bool)(b:dm)(c:dm->Bool->ae R):ae R:=
 c b a
def zwp{R:Type}(a:dm)(b:dm->Bool->ae R):ae R:=
 b (0,0,0,bs [],[],()) false
def TH:Nat->Int->fO->Int->Int->dm->ae (Sum (Bool×dm) dm)
 |0,_,_,_,_,_=>none
 |k+1,v0,v1,v2,v3,v4=>zwn v0 v1 v2 v3 v4 (λa0 a1=>some (.inl (a0,a1))) (λa0 a1 a2 a3 a4=>TH k a0 a1 a2 a3 a4) (λa0=>some (.inr a0))
def xq(a:dF)(b:Int):ae (dm×Bool):=
 Yl a b (λa0 a1 a2 a3 a4=>(TH bG a0 a1 a2 a3 a4).bind λe=>aI (λ(we:(Bool×dm))=>zwo we.1 we.2 (λa0 a1=>some (a0,a1))) (λ(we:dm)=>zwp we (λa0 a1=>some (a0,a1))) e)
def Yi{R:Type}(a:dF)(b c:bC)(d:cC)(e:cC->dQ->ae R)(f:fO->Int->Int->dF->bC->cC->cC->dQ->cC->ae R):ae R:=
 (zM a b c).bind λr1=>bif !decide (r1.1=0) then e (bs [],[],()) (1,(-1:Int),()) else(zE b d).bind λr2=>bif !decide (r2.1=0) then e (bs [],[],()) r2 else(BO a d.1).bind λr3=>bif !r3.2 then e (bs [],[],()) (7,0,()) else f a.2.1 ((ag a.2.1):Int) 0 a c d (bs [],[],()) (0,0,()) (r3.1,[],())
def zwi{R:Type}(a:fO)(b c:Int)(d:dF)(e:bC)(f g:cC)(h:dQ)(i:cC)(j:fO->Int->Int->dF->bC->cC->cC->dQ->cC->ae R)(l:dF->bC->cC->cC->dQ->cC->ae R):ae R:=
 bif c<b then zd c (ag a) (bif(ah a c.toNat (0,0,0,bs [],[],())).1=3 then(qD i (ah a c.toNat (0,0,0,bs [],[],())).2.2.1 (ah a c.toNat (0,0,0,bs [],[],())).2.2.2.1).bind λr4=>j a b (zW zI (c+1)) d e f g h r4 else j a b (zW zI (c+1)) d e f g h i) else l d e f g h i
def Yj{R:Type}(a:dF)(b:bC)(c d:cC)(e:dQ)(f:cC)(g:cN->Int->Int->dF->bC->cC->dQ->cC->ae R):ae R:=
 g c.2.1 ((ag c.2.1):Int) 0 a b d e f
def zwj{R:Type}(a:cN)(b c:Int)(d:dF)(e:bC)(f:cC)(g:dQ)(h:cC)(i:cC->dQ->cC->ae R)(j:cN->Int->Int->dF->bC->cC->dQ->cC->ae R)(l:cC->dQ->cC->ae R):ae R:=
 bif c<b then zd c (ag a) ((xq d (ah a c.toNat (0,bs [],())).1).bind λr5=>bif !r5.2 then i (bs [],[],()) (9,(ah a c.toNat (0,bs [],())).1,()) h else(xl r5.1 e (ah a c.toNat (0,bs [],())).2.1).bind λr6=>bif !decide (r6.2=0) then i (bs [],[],()) (r6.2,(ah a c.toNat (0,bs [],())).1,()) h else bif !decide (r6.1.1=0) then(qD h r6.1.1 r6.1.2.1).bind λr7=>j a b (zW zI (c+1)) d e f g r7 else j a b (zW zI (c+1)) d e f g h) else l f g h
def zwk{R:Type}(a:cC)(b:dQ)(c:cC)(d:cC->dQ->ae R):ae R:=
 d a b
def zwl{R:Type}(a:cC)(b:dQ)(c:cC)(d:cC->dQ->ae R):ae R:=
 d c (0,0,())
def TF:Nat->fO->Int->Int->dF->bC->cC->cC->dQ->cC->ae (dF×bC×cC×cC×dQ×cC)
 |0,_,_,_,_,_,_,_,_,_=>none
 |k+1,v0,v1,v2,v3,v4,v5,v6,v7,v8=>zwi v0 v1 v2 v3 v4 v5 v6 v7 v8 (λa0 a1 a2 a3 a4 a5 a6 a7 a8=>TF k a0 a1 a2 a3 a4 a5 a6 a7 a8) (λa0 a1 a2 a3 a4 a5=>some (a0,a1,a2,a3,a4,a5))
def TG:Nat->cN->Int->Int->dF->bC->cC->dQ->cC->ae (Sum zR zR)
 |0,_,_,_,_,_,_,_,_=>none
 |k+1,v0,v1,v2,v3,v4,v5,v6,v7=>zwj v0 v1 v2 v3 v4 v5 v6 v7 (λa0 a1 a2=>some (.inl (a0,a1,a2))) (λa0 a1 a2 a3 a4 a5 a6 a7=>TG k a0 a1 a2 a3 a4 a5 a6 a7) (λa0 a1 a2=>some (.inr (a0,a1,a2)))
def zN(a:dF)(b c:bC)(d:cC):ae (cC×dQ):=
 Yi a b c d (λa0 a1=>some (a0,a1)) (λa0 a1 a2 a3 a4 a5 a6 a7 a8=>(TF bG a0 a1 a2 a3 a4 a5 a6 a7 a8).bind λe=>Yj e.1 e.2.1 e.2.2.1 e.2.2.2.1 e.2.2.2.2.1 e.2.2.2.2.2 (λa0 a1 a2 a3 a4 a5 a6 a7=>(TG bG a0 a1 a2 a3 a4 a5 a6 a7).bind λe=>aI (λ(we:zR)=>zwk we.1 we.2.1 we.2.2 (λa0 a1=>some (a0,a1))) (λ(we:zR)=>zwl we.1 we.2.1 we.2.2 (λa0 a1=>some (a0,a1))) e))
def Xg{R:Type}(a:cU)(b:Int->Int->Int->ae R)(c:zV->Int->cU->ae R):ae R:=
 bif a.2.1<1 then b 5 2 0 else bif 65535<a.2.1 then b 5 2 0 else c a.1 0 a
def Lo{R:Type}(a:zV)(b:Int)(c:cU)(d:Int->Int->Int->ae R)(e:zV->Int->cU->ae R)(f:ae R):ae R:=
 bif b<2 then zd b 2 ((Bv (ah a b.toNat ((0,0,[],()),([],[],()),[],[],()))).bind λr1=>bif !decide (r1.1=0) then d r1.1 b 1 else zd (zW zI (1-b)) 2 ((zM (ah a b.toNat ((0,0,[],()),([],[],()),[],[],())).2.1 (ah a b.toNat ((0,0,[],()),([],[],()),[],[],())).1 (ah c.1 (zW zI (1-b)).toNat ((0,0,[],()),([],[],()),[],[],())).1).bind λr2=>bif !decide (r2.1=0) then d r2.1 b 2 else e a (zW zI (b+1)) c)) else f
def zv0{R:Type}(a b c:Int)(d:Int->Int->Int->ae R):ae R:=
 d a b c
def zv1{R:Type}(a:Int->Int->Int->ae R):ae R:=
 a 0 0 0
def Kd:Nat->zV->Int->cU->ae (Sum sC Unit)
 |0,_,_,_=>none
 |k+1,v0,v1,v2=>Lo v0 v1 v2 (λa0 a1 a2=>some (.inl (a0,a1,a2))) (λa0 a1 a2=>Kd k a0 a1 a2) (some (.inr ()))
def zL(a:cU):ae sC:=
 Xg a (λa0 a1 a2=>some (a0,a1,a2)) (λa0 a1 a2=>(Kd bG a0 a1 a2).bind λe=>aI (λ(we:sC)=>zv0 we.1 we.2.1 we.2.2 (λa0 a1 a2=>some (a0,a1,a2))) (λ(we:Unit)=>zv1 (λa0 a1 a2=>some (a0,a1,a2))) e)
def Xi{R:Type}(a:cC)(b:dQ)(c:cO)(d:cU)(e:Int->af->ae R):ae R:=
 (Bu c a b).bind λr1=>bif !r1.2 then e 3 (bs []) else(vI c.1 r1.1).bind λr2=>bif r2.1=bs [] then e 3 (bs []) else bif d.2.1<(r2.1.size:Int) then e 3 (bs []) else e 2 r2.1
def tH(a:cC)(b:dQ)(c:cO)(d:cU):ae Zt3:=
 Xi a b c d (λa0 a1=>some (a0,a1))
def Xh{R:Type}(a:cU)(b:Int)(c:af)(d:Int->af->ae R):ae R:=
 (zL a).bind λr1=>bif !decide (r1.1=0) then d 0 (bs []) else bif b<0 then d 0 (bs []) else bif 1<b then d 0 (bs []) else zd b 2 (zd (zW zI (1-b)) 2 ((xn (ah a.1 b.toNat ((0,0,[],()),([],[],()),[],[],())).1 c).bind λr2=>bif !decide (r2.2.1=0) then(tH r2.1 r2.2 (ah a.1 b.toNat ((0,0,[],()),([],[],()),[],[],())) a).bind λr3=>d r3.1 r3.2 else(zN (ah a.1 b.toNat ((0,0,[],()),([],[],()),[],[],())).2.1 (ah a.1 b.toNat ((0,0,[],()),([],[],()),[],[],())).1 (ah a.1 (zW zI (1-b)).toNat ((0,0,[],()),([],[],()),[],[],())).1 r2.1).bind λr4=>bif !decide (r4.2.1=0) then(tH r2.1 r4.2 (ah a.1 b.toNat ((0,0,[],()),([],[],()),[],[],())) a).bind λr5=>d r5.1 r5.2 else(vI (ah a.1 (zW zI (1-b)).toNat ((0,0,[],()),([],[],()),[],[],())).1 r4.1).bind λr6=>bif a.2.1<(r6.1.size:Int) then(tH r2.1 (5,129,()) (ah a.1 b.toNat ((0,0,[],()),([],[],()),[],[],())) a).bind λr7=>d r7.1 r7.2 else d 1 r6.1))
def xk(a:cU)(b:Int)(c:af):ae Zt3:=
 Xh a b c (λa0 a1=>some (a0,a1))
def zva{R:Type}(a:dQ)(b:fO->Int->dQ->ae R):ae R:=
 (DI a (0:Int)).bind λr1=>b [] r1 a
def zvb{R:Type}(a:fO)(b:Int)(c:dQ)(d:fO->Int->dQ->ae R)(e:fO->ae R):ae R:=
 bif !decide (b=0) then bif b=12 then bif(ag a+ag ([((4:Int),b,b,bs [],([]:List gW),())]:List dm))*64<=140737488355328 then(DI c b).bind λr2=>d (a++([(4,b,b,bs [],[],())]:List dm)) r2 c else none else bif(ag a+ag ([((1:Int),b,b,bs [],([]:List gW),())]:List dm))*64<=140737488355328 then(DI c b).bind λr3=>d (a++([(1,b,b,bs [],[],())]:List dm)) r3 c else none else e a
def zvc{R:Type}(a:fO)(b:fO->ae R):ae R:=
 b a
def Xm:Nat->fO->Int->dQ->ae fO
 |0,_,_,_=>none
 |k+1,v0,v1,v2=>zvb v0 v1 v2 (λa0 a1 a2=>Xm k a0 a1 a2) (λa0=>some a0)
def BD(a:dQ):ae fO:=
 zva a (λa0 a1 a2=>(Xm bG a0 a1 a2).bind λe=>zvc e (λa0=>some a0))
def zv9{R:Type}(a:dm->ae R):ae R:=
 a (5,22,22,bs [],([(bs [48,53,49],bs [53,49,48,49,48,49,53,49,49,51,52,52],()),(bs [48,50,49],bs [50,49,48,49,48,49,50,49,49,51,52,52],()),(bs [48,49,50],bs [49,48,48,49,52,48,49,48,48,49,49,48],())]:List gW),())
def DA:ae dm:=
 zv9 (λa0=>some a0)
def zv4{R:Type}(a:dm->ae R):ae R:=
 a (5,39,39,bs [],([(bs [48,48],bs [48,48,48],()),(bs [48,53],bs [49,48,48],()),(bs [49,52],bs [49,49,49],()),(bs [53,49],bs [49,49,54],()),(bs [53,52],bs [49,48,49],()),(bs [57,49],bs [57,48,55],()),(bs [57,54],bs [57,48,57],())]:List gW),())
def Dx:ae dm:=
 zv4 (λa0=>some a0)
def zvd{R:Type}(a:dD->ae R):ae R:=
 a ([(bs [48,49,48,48],bs [49,49,48,48],()),(bs [48,49,49,48],bs [49,49,49,48],()),(bs [48,50,48,48],bs [49,50,48,48],()),(bs [48,50,49,48],bs [49,50,49,48],()),(bs [48,50,50,48],bs [49,50,50,48],()),(bs [48,50,51,48],bs [49,50,51,48],()),(bs [48,52,48,48],bs [49,52,48,48],()),(bs [48,52,49,48],bs [49,52,49,48],()),(bs [48,52,50,48],bs [49,52,50,48],()),(bs [48,52,51,48],bs [49,52,51,48],()),(bs [48,56,48,48],bs [49,56,48,52],()),(bs [48,56,49,48],bs [49,56,49,52],())]:List gW)
def DB:ae dD:=
 zvd (λa0=>some a0)
def zv8{R:Type}(a:(List Int)->ae R):ae R:=
 a ([2,3,4,7,11,12,32,37,41,42,70]:List Int)
def Dz:ae (List Int):=
 zv8 (λa0=>some a0)
def zv5{R:Type}(a b c:af)(d:af->af->cN->(List Int)->Int->Int->ae R):ae R:=
 d b c ([(0,a,())]:List eQ) ([2,3,12,9]:List Int) ((ag ([(2:Int),(3:Int),(12:Int),(9:Int)]:List Int)):Int) 0
def zv6{R:Type}(a b:af)(c:cN)(d:(List Int))(e f:Int)(g:af->af->cN->(List Int)->Int->Int->ae R)(h:af->cN->ae R):ae R:=
 bif f<e then zd f (ag d) (bif(ag c+ag ([(ah d f.toNat (0:Int),a,())]:List eQ))*24<=140737488355328 then g a b (c++([(ah d f.toNat 0,a,())]:List eQ)) d e (zW zI (f+1)) else none) else h b c
def zv7{R:Type}(a:af)(b:cN)(c:cN->ae R):ae R:=
 bif(ag b+ag ([((15:Int),a,())]:List eQ))*24<=140737488355328 then c (b++([(15,a,())]:List eQ)) else none
def Xk:Nat->af->af->cN->(List Int)->Int->Int->ae (af×cN)
 |0,_,_,_,_,_,_=>none
 |k+1,v0,v1,v2,v3,v4,v5=>zv6 v0 v1 v2 v3 v4 v5 (λa0 a1 a2 a3 a4 a5=>Xk k a0 a1 a2 a3 a4 a5) (λa0 a1=>some (a0,a1))
def Dy(a b c:af):ae cN:=
 zv5 a b c (λa0 a1 a2 a3 a4 a5=>(Xk bG a0 a1 a2 a3 a4 a5).bind λe=>zv7 e.1 e.2 (λa0=>some a0))
def zuy{R:Type}(a:cU->ae R):ae R:=
 L3.bind λr1=>(BD r1).bind λr2=>DA.bind λr3=>Dx.bind λr4=>bif(ag r2+ag ([((2:Int),(13:Int),(0:Int),bs [],([]:List gW),()),((2:Int),(18:Int),(0:Int),bs [],([]:List gW),()),((2:Int),(90:Int),(0:Int),bs [],([]:List gW),()),r3,r4,((1:Int),(43:Int),(43:Int),bs [],([]:List gW),()),((1:Int),(48:Int),(48:Int),bs [],([]:List gW),()),((3:Int),(0:Int),(26:Int),bs [53,57,57,57],([]:List gW),())]:List dm))*64<=140737488355328 then DB.bind λr5=>DA.bind λr6=>Dx.bind λr7=>(Dv (r5,([r6,r7]:List dm),())).bind λr8=>L3.bind λr9=>(BD r9).bind λqZ=>bif(ag qZ+ag ([((2:Int),(26:Int),(0:Int),bs [],([]:List gW),()),((2:Int),(43:Int),(0:Int),bs [],([]:List gW),())]:List dm))*64<=140737488355328 then bif(ag (qZ++([((2:Int),(26:Int),(0:Int),bs [],([]:List gW),()),((2:Int),(43:Int),(0:Int),bs [],([]:List gW),())]:List dm))+ag r8.2.1)*64<=140737488355328 then bif(ag ((qZ++([((2:Int),(26:Int),(0:Int),bs [],([]:List gW),()),((2:Int),(43:Int),(0:Int),bs [],([]:List gW),())]:List dm))++r8.2.1)+ag ([((1:Int),(48:Int),(48:Int),bs [],([]:List gW),())]:List dm))*64<=140737488355328 then Q23.bind λtn=>DB.bind λuz=>Dz.bind λsF=>(Dy (bs [57,54]) (bs [51,48]) (bs [49,50])).bind λvd=>Q24.bind λve=>Dz.bind λAs=>(Dy (bs [57,48,57]) (bs [57,48,52]) (bs [57,48,50])).bind λAt=>a (([(tn,(uz,r2++([(2,13,0,bs [],[],()),(2,18,0,bs [],[],()),(2,90,0,bs [],[],()),r3,r4,(1,43,43,bs [],[],()),(1,48,48,bs [],[],()),(3,0,26,bs [53,57,57,57],[],())]:List dm),()),sF,vd,()),(ve,(r8.1,((qZ++([(2,26,0,bs [],[],()),(2,43,0,bs [],[],())]:List dm))++r8.2.1)++([(1,48,48,bs [],[],())]:List dm),()),As,At,())]:List cO),4096,()) else none else none else none else none
def HY:ae cU:=
 zuy (λa0=>some a0)
def zv2{R:Type}(a:cU->ae R):ae R:=
 HY.bind λr1=>L3.bind λr2=>(BD r2).bind λr3=>zd 0 2 (zd 0 2 ((Dv (ah (b8 r1.1 ((0:Int)).toNat ((ah r1.1 ((0:Int)).toNat ((0,0,[],()),([],[],()),[],[],())).1,((ah r1.1 ((0:Int)).toNat ((0,0,[],()),([],[],()),[],[],())).2.1.1,r3,()),(ah r1.1 ((0:Int)).toNat ((0,0,[],()),([],[],()),[],[],())).2.2.1,(ah r1.1 ((0:Int)).toNat ((0,0,[],()),([],[],()),[],[],())).2.2.2.1,())) ((0:Int)).toNat ((0,0,[],()),([],[],()),[],[],())).2.1).bind λr4=>zd 1 2 (a (b8 (b8 r1.1 ((0:Int)).toNat ((ah r1.1 ((0:Int)).toNat ((0,0,[],()),([],[],()),[],[],())).1,((ah r1.1 ((0:Int)).toNat ((0,0,[],()),([],[],()),[],[],())).2.1.1,r3,()),(ah r1.1 ((0:Int)).toNat ((0,0,[],()),([],[],()),[],[],())).2.2.1,(ah r1.1 ((0:Int)).toNat ((0,0,[],()),([],[],()),[],[],())).2.2.2.1,())) ((1:Int)).toNat ((ah (b8 r1.1 ((0:Int)).toNat ((ah r1.1 ((0:Int)).toNat ((0,0,[],()),([],[],()),[],[],())).1,((ah r1.1 ((0:Int)).toNat ((0,0,[],()),([],[],()),[],[],())).2.1.1,r3,()),(ah r1.1 ((0:Int)).toNat ((0,0,[],()),([],[],()),[],[],())).2.2.1,(ah r1.1 ((0:Int)).toNat ((0,0,[],()),([],[],()),[],[],())).2.2.2.1,())) ((1:Int)).toNat ((0,0,[],()),([],[],()),[],[],())).1,r4,(ah (b8 r1.1 ((0:Int)).toNat ((ah r1.1 ((0:Int)).toNat ((0,0,[],()),([],[],()),[],[],())).1,((ah r1.1 ((0:Int)).toNat ((0,0,[],()),([],[],()),[],[],())).2.1.1,r3,()),(ah r1.1 ((0:Int)).toNat ((0,0,[],()),([],[],()),[],[],())).2.2.1,(ah r1.1 ((0:Int)).toNat ((0,0,[],()),([],[],()),[],[],())).2.2.2.1,())) ((1:Int)).toNat ((0,0,[],()),([],[],()),[],[],())).2.2.1,(ah (b8 r1.1 ((0:Int)).toNat ((ah r1.1 ((0:Int)).toNat ((0,0,[],()),([],[],()),[],[],())).1,((ah r1.1 ((0:Int)).toNat ((0,0,[],()),([],[],()),[],[],())).2.1.1,r3,()),(ah r1.1 ((0:Int)).toNat ((0,0,[],()),([],[],()),[],[],())).2.2.1,(ah r1.1 ((0:Int)).toNat ((0,0,[],()),([],[],()),[],[],())).2.2.2.1,())) ((1:Int)).toNat ((0,0,[],()),([],[],()),[],[],())).2.2.2.1,()),r1.2.1,()))))
def BB:ae cU:=
 zv2 (λa0=>some a0)
def zv3{R:Type}(a:cU)(b:cU->ae R):ae R:=
 zd 1 2 (zd 0 2 (zd 0 2 (zd 1 2 (b (b8 (b8 a.1 ((0:Int)).toNat (ah a.1 ((1:Int)).toNat ((0,0,[],()),([],[],()),[],[],()))) ((1:Int)).toNat (ah a.1 ((0:Int)).toNat ((0,0,[],()),([],[],()),[],[],())),a.2.1,())))))
def BC(a:cU):ae cU:=
 zv3 a (λa0=>some a0)
def ZV{R:Type}(a:cO)(b:fO->fO->Int->Int->cO->cO->ae R):ae R:=
 bif ag a.1.2.2.1*40<=140737488355328 then bif ag a.2.1.1*32<=140737488355328 then bif 0<=((ag a.2.1.2.1):Int) then bif((ag a.2.1.2.1):Int)*64<=140737488355328 then b [] a.2.1.2.1 ((ag a.2.1.2.1):Int) 0 ((a.1.1,a.1.2.1,a.1.2.2.1,()),(a.2.1.1,a.2.1.2.1,()),a.2.2.1,a.2.2.2.1,()) ((0,0,[],()),([],[],()),[],[],()) else none else none else none else none
def Js{R:Type}(a b:fO)(c d:Int)(e f:cO)(g:fO->fO->Int->Int->cO->cO->ae R)(h:fO->cO->cO->ae R):ae R:=
 bif d<c then zd d (ag b) (bif ag (ah b d.toNat ((0:Int),(0:Int),(0:Int),bs [],([]:List gW),())).2.2.2.2.1*32<=140737488355328 then bif(ag a+ag ([((ah b d.toNat ((0:Int),(0:Int),(0:Int),bs [],([]:List gW),())).1,(ah b d.toNat ((0:Int),(0:Int),(0:Int),bs [],([]:List gW),())).2.1,(ah b d.toNat ((0:Int),(0:Int),(0:Int),bs [],([]:List gW),())).2.2.1,(ah b d.toNat ((0:Int),(0:Int),(0:Int),bs [],([]:List gW),())).2.2.2.1,(ah b d.toNat ((0:Int),(0:Int),(0:Int),bs [],([]:List gW),())).2.2.2.2.1,())]:List dm))*64<=140737488355328 then g (a++([((ah b d.toNat (0,0,0,bs [],[],())).1,(ah b d.toNat (0,0,0,bs [],[],())).2.1,(ah b d.toNat (0,0,0,bs [],[],())).2.2.1,(ah b d.toNat (0,0,0,bs [],[],())).2.2.2.1,(ah b d.toNat (0,0,0,bs [],[],())).2.2.2.2.1,())]:List dm)) b c (zW zI (d+1)) e f else none else none) else h a e f
def ZW{R:Type}(a:fO)(b c:cO)(d:cO->ae R):ae R:=
 bif ag b.2.2.1*8<=140737488355328 then bif ag b.2.2.2.1*24<=140737488355328 then d (b.1,(b.2.1.1,a,()),b.2.2.1,b.2.2.2.1,()) else none else none
def T8:Nat->fO->fO->Int->Int->cO->cO->ae (fO×cO×cO)
 |0,_,_,_,_,_,_=>none
 |k+1,v0,v1,v2,v3,v4,v5=>Js v0 v1 v2 v3 v4 v5 (λa0 a1 a2 a3 a4 a5=>T8 k a0 a1 a2 a3 a4 a5) (λa0 a1 a2=>some (a0,a1,a2))
def Mi(a:cO):ae cO:=
 ZV a (λa0 a1 a2 a3 a4 a5=>(T8 bG a0 a1 a2 a3 a4 a5).bind λe=>ZW e.1 e.2.1 e.2.2 (λa0=>some a0))
def ZS{R:Type}(a:cU)(b:Int->ae R)(c:Int->cU->(cU×(ae bP×ae bP)×Int)->ae R):ae R:=
 (zL a).bind λr1=>bif !decide (r1.1=0) then b 1 else c 0 a (a,((none,none),0))
def LJ{R:Type}(a:Int)(b:cU)(c:(cU×(ae bP×ae bP)×Int))(d:Int->cU->(cU×(ae bP×ae bP)×Int)->ae R)(e:(cU×(ae bP×ae bP)×Int)->ae R):ae R:=
 bif a<2 then zd a 2 ((Mi (ah b.1 a.toNat ((0,0,[],()),([],[],()),[],[],()))).bind λr2=>zd a 2 ((Mf b.2.1).bind λr3=>aI (λ(C5:Int)=>zd a 2 (d (zW zI (a+1)) b ((b8 c.1.1 a.toNat r2,c.1.2.1,()),(pS a.toNat none c.2.1,c.2.2)))) (λ(C5:Ei)=>zd a 2 (d (zW zI (a+1)) b ((b8 c.1.1 a.toNat r2,c.1.2.1,()),(pS a.toNat (some C5.2) c.2.1,c.2.2)))) r3)) else e c
def Jr{R:Type}(a:(cU×(ae bP×ae bP)×Int))(b:Int->(cU×(ae bP×ae bP)×Int)->ae R):ae R:=
 b 0 a
def Ks:Nat->Int->cU->(cU×(ae bP×ae bP)×Int)->ae (cU×(ae bP×ae bP)×Int)
 |0,_,_,_=>none
 |k+1,v0,v1,v2=>LJ v0 v1 v2 (λa0 a1 a2=>Ks k a0 a1 a2) (λa0=>some a0)
def H2(a:cU):ae (Sum Int (Int×(cU×(ae bP×ae bP)×Int))):=
 ZS a (λa0=>some (.inl a0)) (λa0 a1 a2=>(Ks bG a0 a1 a2).bind λe=>Jr e (λa0 a1=>some (.inr (a0,a1))))
def ZT{R:Type}(a:Int)(b:Bool->ae R):ae R:=
 bif a=0 then b true else b (decide (a=1))
def Mh(a:Int):ae Bool:=
 ZT a (λa0=>some a0)
def ZQ{R:Type}(a:(cU×(ae bP×ae bP)×Int))(b:Int)(c:af)(d:xx->(cU×(ae bP×ae bP)×Int)->ae R):ae R:=
 (xk a.1 b c).bind λr1=>bif r1.1=3 then d (b,r1.1,bs [],zW zI (a.2.2+1),()) (a.1,(a.2.1,zW zI (a.2.2+1))) else bif r1.1=1 then(H0 r1.2).bind λr2=>d (zW zI (1-b),r1.1,r2.1,a.2.2,()) a else(H0 r1.2).bind λr3=>d (b,r1.1,r3.1,a.2.2,()) a
def Kz(a:(cU×(ae bP×ae bP)×Int))(b:Int)(c:af):ae (xx×(cU×(ae bP×ae bP)×Int)):=
 ZQ a b c (λa0 a1=>some (a0,a1))
def ZP{R:Type}(a:(cU×(ae bP×ae bP)×Int))(b:eQ)(c:nA->(cU×(ae bP×ae bP)×Int)->ae R)(d:nA->Bool->(List af)->Int->Int->(cU×(ae bP×ae bP)×Int)->eQ->ae R):ae R:=
 (Mh b.1).bind λr1=>bif !r1 then c [] a else zd b.1 2 ((getM b.1.toNat a.2.1).bind λm2=>(HZ m2 b.2.1).bind λr3=>d [] r3.2.1 r3.1 ((ag r3.1):Int) 0 (a.1,(pS b.1.toNat (some r3.2.2) a.2.1,a.2.2)) b)
def Jq{R:Type}(a:nA)(b:Bool)(c:(List af))(d e:Int)(f:(cU×(ae bP×ae bP)×Int))(g:eQ)(h:nA->Bool->(List af)->Int->Int->(cU×(ae bP×ae bP)×Int)->eQ->ae R)(i:nA->Bool->(cU×(ae bP×ae bP)×Int)->eQ->ae R):ae R:=
 bif e<d then zd e (ag c) ((Kz f g.1 (ah c e.toNat (bs []))).bind λr4=>bif(ag a+ag ([r4.1]:List xx))*40<=140737488355328 then h (a++([r4.1]:List xx)) b c d (zW zI (e+1)) r4.2 g else none) else i a b f g
def T7{R:Type}(a:nA)(b:Bool)(c:(cU×(ae bP×ae bP)×Int))(d:eQ)(e:nA->(cU×(ae bP×ae bP)×Int)->ae R):ae R:=
 bif b then bif(ag a+ag ([(d.1,(4:Int),bs [],c.2.2,())]:List xx))*40<=140737488355328 then e (a++([(d.1,4,bs [],c.2.2,())]:List xx)) c else none else e a c
def LI:Nat->nA->Bool->(List af)->Int->Int->(cU×(ae bP×ae bP)×Int)->eQ->ae (nA×Bool×(cU×(ae bP×ae bP)×Int)×eQ)
 |0,_,_,_,_,_,_,_=>none
 |k+1,v0,v1,v2,v3,v4,v5,v6=>Jq v0 v1 v2 v3 v4 v5 v6 (λa0 a1 a2 a3 a4 a5 a6=>LI k a0 a1 a2 a3 a4 a5 a6) (λa0 a1 a2 a3=>some (a0,a1,a2,a3))
def Ky(a:(cU×(ae bP×ae bP)×Int))(b:eQ):ae (nA×(cU×(ae bP×ae bP)×Int)):=
 ZP a b (λa0 a1=>some (a0,a1)) (λa0 a1 a2 a3 a4 a5 a6=>(LI bG a0 a1 a2 a3 a4 a5 a6).bind λe=>T7 e.1 e.2.1 e.2.2.1 e.2.2.2 (λa0 a1=>some (a0,a1)))
def zsx{R:Type}(a:(List Int)->ae R):ae R:=
 a ([2,3,4,7,11,12,14,23,32,35,37,38,41,42,49,52,55,64,70,102,128]:List Int)
def HK:ae (List Int):=
 zsx (λa0=>some a0)
def zt1{R:Type}(a:H3->ae R):ae R:=
 a ([([2,1,2,12,19,1,2,12,19]:List Int),([3,1,1,6,6,1,1,6,6]:List Int),([4,1,1,12,12,1,1,12,12]:List Int),([7,1,1,10,10,1,1,10,10]:List Int),([11,1,1,6,6,1,1,6,6]:List Int),([12,1,1,6,6,1,1,12,12]:List Int),([13,1,1,4,4,0,0,0,0]:List Int),([14,1,1,4,4,1,1,4,4]:List Int),([18,1,1,4,4,0,0,0,0]:List Int),([22,1,1,3,3,3,1,12,12]:List Int),([23,1,1,3,3,1,1,3,3]:List Int),([26,0,0,0,0,1,1,4,4]:List Int),([32,1,2,1,11,1,2,1,11]:List Int),([35,4,2,1,37,4,2,1,37]:List Int),([37,3,1,12,12,3,1,12,12]:List Int),([38,3,1,6,6,3,1,6,6]:List Int),([39,3,1,2,2,1,1,3,3]:List Int),([41,4,1,8,8,4,1,8,8]:List Int),([42,4,1,15,15,4,1,15,15]:List Int),([43,4,1,40,40,4,2,1,99]:List Int),([48,4,3,1,999,4,3,1,999]:List Int),([49,1,1,3,3,1,1,3,3]:List Int),([52,5,1,8,8,5,1,8,8]:List Int),([55,6,3,1,255,6,3,1,255]:List Int),([64,5,1,8,8,5,1,8,8]:List Int),([70,1,1,3,3,1,1,3,3]:List Int),([90,1,1,42,42,0,0,0,0]:List Int),([102,4,2,1,28,4,2,1,28]:List Int),([128,5,1,8,8,5,1,8,8]:List Int)]:List (List Int))
def HL:ae H3:=
 zt1 (λa0=>some a0)
def zsy{R:Type}(a:Int)(b:Int->H3->Int->bC->bC->ae R):ae R:=
 HL.bind λr1=>b a r1 0 (0,0,[],()) (zW zI (a+1),a,[],())
def zsz{R:Type}(a:Int)(b:H3)(c:Int)(d e:bC)(f:Int->H3->Int->bC->bC->ae R)(g:bC->bC->ae R):ae R:=
 bif c<((ag b):Int) then zd c (ag b) (bif 0<=zW zI (5+zW zI (4*a)) then bif zW zI (5+zW zI (4*a))<=(((ag (ah b c.toNat ([]:List Int))):Nat):Int) then bif 0<=zW zI (1+zW zI (4*a)) then bif zW zI (1+zW zI (4*a))<=(((zW zI (5+zW zI (4*a))).toNat:Nat):Int) then zd 0 (ag (bu (zW zI ((1:Int)+zW zI ((4:Int)*a))).toNat (aJ (zW zI ((5:Int)+zW zI ((4:Int)*a))).toNat (ah b c.toNat ([]:List Int))))) (bif 0<ah (bu (zW zI (1+zW zI (4*a))).toNat (aJ (zW zI (5+zW zI (4*a))).toNat (ah b c.toNat []))) ((0:Int)).toNat 0 then zd c (ag b) (zd 0 (ag (ah b c.toNat ([]:List Int))) (zd 0 (ag (bu (zW zI ((1:Int)+zW zI ((4:Int)*a))).toNat (aJ (zW zI ((5:Int)+zW zI ((4:Int)*a))).toNat (ah b c.toNat ([]:List Int))))) (zd 1 (ag (bu (zW zI ((1:Int)+zW zI ((4:Int)*a))).toNat (aJ (zW zI ((5:Int)+zW zI ((4:Int)*a))).toNat (ah b c.toNat ([]:List Int))))) (zd 2 (ag (bu (zW zI ((1:Int)+zW zI ((4:Int)*a))).toNat (aJ (zW zI ((5:Int)+zW zI ((4:Int)*a))).toNat (ah b c.toNat ([]:List Int))))) (zd 3 (ag (bu (zW zI ((1:Int)+zW zI ((4:Int)*a))).toNat (aJ (zW zI ((5:Int)+zW zI ((4:Int)*a))).toNat (ah b c.toNat ([]:List Int))))) (bif(ag e.2.2.1+ag ([(ah (ah b c.toNat ([]:List Int)) ((0:Int)).toNat (0:Int),ah (bu (zW zI ((1:Int)+zW zI ((4:Int)*a))).toNat (aJ (zW zI ((5:Int)+zW zI ((4:Int)*a))).toNat (ah b c.toNat ([]:List Int)))) ((0:Int)).toNat (0:Int),ah (bu (zW zI ((1:Int)+zW zI ((4:Int)*a))).toNat (aJ (zW zI ((5:Int)+zW zI ((4:Int)*a))).toNat (ah b c.toNat ([]:List Int)))) ((1:Int)).toNat (0:Int),ah (bu (zW zI ((1:Int)+zW zI ((4:Int)*a))).toNat (aJ (zW zI ((5:Int)+zW zI ((4:Int)*a))).toNat (ah b c.toNat ([]:List Int)))) ((2:Int)).toNat (0:Int),ah (bu (zW zI ((1:Int)+zW zI ((4:Int)*a))).toNat (aJ (zW zI ((5:Int)+zW zI ((4:Int)*a))).toNat (ah b c.toNat ([]:List Int)))) ((3:Int)).toNat (0:Int),())]:List dR))*40<=140737488355328 then f a b (zW zI (c+1)) d (e.1,e.2.1,e.2.2.1++([(ah (ah b c.toNat []) ((0:Int)).toNat 0,ah (bu (zW zI (1+zW zI (4*a))).toNat (aJ (zW zI (5+zW zI (4*a))).toNat (ah b c.toNat []))) ((0:Int)).toNat 0,ah (bu (zW zI (1+zW zI (4*a))).toNat (aJ (zW zI (5+zW zI (4*a))).toNat (ah b c.toNat []))) ((1:Int)).toNat 0,ah (bu (zW zI (1+zW zI (4*a))).toNat (aJ (zW zI (5+zW zI (4*a))).toNat (ah b c.toNat []))) ((2:Int)).toNat 0,ah (bu (zW zI (1+zW zI (4*a))).toNat (aJ (zW zI (5+zW zI (4*a))).toNat (ah b c.toNat []))) ((3:Int)).toNat 0,())]:List dR),()) else none)))))) else f a b (zW zI (c+1)) d e) else none else none else none else none) else g d e
def zt0{R:Type}(a b:bC)(c:bC->ae R):ae R:=
 c b
def V4:Nat->Int->H3->Int->bC->bC->ae (bC×bC)
 |0,_,_,_,_,_=>none
 |k+1,v0,v1,v2,v3,v4=>zsz v0 v1 v2 v3 v4 (λa0 a1 a2 a3 a4=>V4 k a0 a1 a2 a3 a4) (λa0 a1=>some (a0,a1))
def Be(a:Int):ae bC:=
 zsy a (λa0 a1 a2 a3 a4=>(V4 bG a0 a1 a2 a3 a4).bind λe=>zt0 e.1 e.2 (λa0=>some a0))
def zt3{R:Type}(a:dD)(b:dD->dD->Int->ae R):ae R:=
 b a [] 0
def zt4{R:Type}(a b:dD)(c:Int)(d:dD->dD->Int->ae R)(e:dD->ae R):ae R:=
 bif c<((ag a):Int) then zd c (ag a) (zd c (ag a) (bif(ag b+ag ([((ah a c.toNat (bs [],bs [],())).2.1,(ah a c.toNat (bs [],bs [],())).1,())]:List gW))*32<=140737488355328 then d a (b++([((ah a c.toNat (bs [],bs [],())).2.1,(ah a c.toNat (bs [],bs [],())).1,())]:List gW)) (zW zI (c+1)) else none)) else e b
def zt5{R:Type}(a:dD)(b:dD->ae R):ae R:=
 b a
def V6:Nat->dD->dD->Int->ae dD
 |0,_,_,_=>none
 |k+1,v0,v1,v2=>zt4 v0 v1 v2 (λa0 a1 a2=>V6 k a0 a1 a2) (λa0=>some a0)
def Bf(a:dD):ae dD:=
 zt3 a (λa0 a1 a2=>(V6 bG a0 a1 a2).bind λe=>zt5 e (λa0=>some a0))
def z167{R:Type}(a:dD)(b:Int)(c:af)(d:dD->Int->af->Int->ae R):ae R:=
 d a b c 0
def zt6{R:Type}(a:dD)(b:Int)(c:af)(d:Int)(e:Int->ae R)(f:dD->Int->af->Int->ae R)(g:ae R):ae R:=
 bif d<b then zd d (ag a) (bif(ah a d.toNat (bs [],bs [],())).1=c then e d else f a b c (zW zI (d+1))) else g
def aka{R:Type}(a:Int)(b:Int->ae R):ae R:=
 b a
def akb{R:Type}(a:Int->ae R):ae R:=
 a (-1:Int)
def S4:Nat->dD->Int->af->Int->ae (Sum Int Unit)
 |0,_,_,_,_=>none
 |k+1,v0,v1,v2,v3=>zt6 v0 v1 v2 v3 (λa0=>some (.inl a0)) (λa0 a1 a2 a3=>S4 k a0 a1 a2 a3) (some (.inr ()))
def Dm(a:dD)(b:Int)(c:af):ae Int:=
 z167 a b c (λa0 a1 a2 a3=>(S4 bG a0 a1 a2 a3).bind λe=>aI (λ(we:Int)=>aka we (λa0=>some a0)) (λ(we:Unit)=>akb (λa0=>some a0)) e)
def Qj{R:Type}(a:dD)(b:af)(c:af->Bool->ae R):ae R:=
 (Dm a ((ag a):Int) b).bind λr1=>bif r1<0 then c (bs []) false else zd r1 (ag a) (c (ah a r1.toNat (bs [],bs [],())).2.1 true)
def HN(a:dD)(b:af):ae sc:=
 Qj a b (λa0 a1=>some (a0,a1))
def Qk{R:Type}(a:dD)(b:Int->Int->ae R)(c:dD->Int->ae R):ae R:=
 bif 256<((ag a):Int) then b 5 256 else c a 0
def zt2{R:Type}(a:dD)(b:Int)(c:Int->Int->ae R)(d:dD->Int->ae R)(e:ae R):ae R:=
 bif b<((ag a):Int) then zd b (ag a) ((Dm a b (ah a b.toNat (bs [],bs [],())).1).bind λr1=>bif 0<=r1 then c 10 b else d a (zW zI (b+1))) else e
def aj7{R:Type}(a b:Int)(c:Int->Int->ae R):ae R:=
 c a b
def aj8{R:Type}(a:Int->Int->ae R):ae R:=
 a 0 0
def S3:Nat->dD->Int->ae (Sum (Int×Int) Unit)
 |0,_,_=>none
 |k+1,v0,v1=>zt2 v0 v1 (λa0 a1=>some (.inl (a0,a1))) (λa0 a1=>S3 k a0 a1) (some (.inr ()))
def HO(a:dD):ae (Int×Int):=
 Qk a (λa0 a1=>some (a0,a1)) (λa0 a1=>(S3 bG a0 a1).bind λe=>aI (λ(we:(Int×Int))=>aj7 we.1 we.2 (λa0 a1=>some (a0,a1))) (λ(we:Unit)=>aj8 (λa0 a1=>some (a0,a1))) e)
def RR{R:Type}(a:Int)(b:Bool->ae R):ae R:=
 bif 48<=a then b (decide (a<=57)) else b false
def Q65(a:Int):ae Bool:=
 RR a (λa0=>some a0)
def RP{R:Type}(a:af)(b:af->Int->ae R):ae R:=
 b a 0
def RQ{R:Type}(a:af)(b:Int)(c:Bool->ae R)(d:af->Int->ae R)(e:ae R):ae R:=
 bif b<(a.size:Int) then zd b a.size ((Q65 (ze a b.toNat)).bind λr1=>bif !r1 then c false else d a (zW zI (b+1))) else e
def amM{R:Type}(a:Bool)(b:Bool->ae R):ae R:=
 b a
def amN{R:Type}(a:Bool->ae R):ae R:=
 a true
def ZX:Nat->af->Int->ae (Sum Bool Unit)
 |0,_,_=>none
 |k+1,v0,v1=>RQ v0 v1 (λa0=>some (.inl a0)) (λa0 a1=>ZX k a0 a1) (some (.inr ()))
def Uv(a:af):ae Bool:=
 RP a (λa0 a1=>(ZX bG a0 a1).bind λe=>aI (λ(we:Bool)=>amM we (λa0=>some a0)) (λ(we:Unit)=>amN (λa0=>some a0)) e)
def RS{R:Type}(a:af)(b:Int->Bool->ae R)(c:af->Int->Int->ae R):ae R:=
 bif(a.size:Int)<1 then b 0 false else bif 18<(a.size:Int) then b 0 false else(Uv a).bind λr1=>bif !r1 then b 0 false else c a 0 0
def RT{R:Type}(a:af)(b c:Int)(d:af->Int->Int->ae R)(e:Int->ae R):ae R:=
 bif c<(a.size:Int) then zd c a.size (d a (zW zI (zW zI (zW zI (10*b)+zW zI (ze a c.toNat))-48)) (zW zI (c+1))) else e b
def amO{R:Type}(a:Int)(b:Int->Bool->ae R):ae R:=
 b a true
def ZY:Nat->af->Int->Int->ae Int
 |0,_,_,_=>none
 |k+1,v0,v1,v2=>RT v0 v1 v2 (λa0 a1 a2=>ZY k a0 a1 a2) (λa0=>some a0)
def Q66(a:af):ae (Int×Bool):=
 RS a (λa0 a1=>some (a0,a1)) (λa0 a1 a2=>(ZY bG a0 a1 a2).bind λe=>amO e (λa0 a1=>some (a0,a1)))
def RY{R:Type}(a:(List Int))(b:Int)(c:(List Int)->Int->Int->ae R):ae R:=
 c a b 0
def Ju{R:Type}(a:(List Int))(b c:Int)(d:Bool->ae R)(e:(List Int)->Int->Int->ae R)(f:ae R):ae R:=
 bif c<((ag a):Int) then zd c (ag a) (bif ah a c.toNat 0=b then d true else e a b (zW zI (c+1))) else f
def amU{R:Type}(a:Bool)(b:Bool->ae R):ae R:=
 b a
def amV{R:Type}(a:Bool->ae R):ae R:=
 a false
def Ua:Nat->(List Int)->Int->Int->ae (Sum Bool Unit)
 |0,_,_,_=>none
 |k+1,v0,v1,v2=>Ju v0 v1 v2 (λa0=>some (.inl a0)) (λa0 a1 a2=>Ua k a0 a1 a2) (some (.inr ()))
def Q78(a:(List Int))(b:Int):ae Bool:=
 RY a b (λa0 a1 a2=>(Ua bG a0 a1 a2).bind λe=>aI (λ(we:Bool)=>amU we (λa0=>some a0)) (λ(we:Unit)=>amV (λa0=>some a0)) e)
def RV{R:Type}(a b:Int)(c:Bool->ae R):ae R:=
 bif 48<=b then bif 65<=b then bif b<=90 then bif a=1 then c (decide (b<=57)) else bif a=2 then c true else bif a=3 then bif b<=57 then c true else c true else bif a=4 then bif 32<=b then c (decide (b<=126)) else c false else bif a=5 then c true else c (decide (a=6)) else bif 97<=b then bif a=1 then c (decide (b<=57)) else bif a=2 then c (decide (b<=122)) else bif a=3 then bif b<=57 then c true else c (decide (b<=122)) else bif a=4 then bif 32<=b then c (decide (b<=126)) else c false else bif a=5 then c true else c (decide (a=6)) else bif a=1 then c (decide (b<=57)) else bif a=2 then c false else bif a=3 then bif b<=57 then c true else c false else bif a=4 then bif 32<=b then c (decide (b<=126)) else c false else bif a=5 then c true else c (decide (a=6)) else bif 97<=b then bif a=1 then c (decide (b<=57)) else bif a=2 then c (decide (b<=122)) else bif a=3 then bif b<=57 then c true else c (decide (b<=122)) else bif a=4 then bif 32<=b then c (decide (b<=126)) else c false else bif a=5 then c true else c (decide (a=6)) else bif a=1 then c (decide (b<=57)) else bif a=2 then c false else bif a=3 then bif b<=57 then c true else c false else bif a=4 then bif 32<=b then c (decide (b<=126)) else c false else bif a=5 then c true else c (decide (a=6)) else bif 65<=b then bif b<=90 then bif a=1 then c false else bif a=2 then c true else bif a=3 then c true else bif a=4 then bif 32<=b then c (decide (b<=126)) else c false else bif a=5 then c true else c (decide (a=6)) else bif 97<=b then bif a=1 then c false else bif a=2 then c (decide (b<=122)) else bif a=3 then c (decide (b<=122)) else bif a=4 then bif 32<=b then c (decide (b<=126)) else c false else bif a=5 then c true else c (decide (a=6)) else bif a=1 then c false else bif a=2 then c false else bif a=3 then c false else bif a=4 then bif 32<=b then c (decide (b<=126)) else c false else bif a=5 then c true else c (decide (a=6)) else bif 97<=b then bif a=1 then c false else bif a=2 then c (decide (b<=122)) else bif a=3 then c (decide (b<=122)) else bif a=4 then bif 32<=b then c (decide (b<=126)) else c false else bif a=5 then c true else c (decide (a=6)) else bif a=1 then c false else bif a=2 then c false else bif a=3 then c false else bif a=4 then bif 32<=b then c (decide (b<=126)) else c false else bif a=5 then c true else c (decide (a=6))
def KA(a b:Int):ae Bool:=
 RV a b (λa0=>some a0)
def RU{R:Type}(a:Int)(b:af)(c:Int->af->Int->ae R):ae R:=
 c a b 0
def Jt{R:Type}(a:Int)(b:af)(c:Int)(d:Int->ae R)(e:Int->af->Int->ae R)(f:ae R):ae R:=
 bif c<(b.size:Int) then zd c b.size ((KA a (ze b c.toNat)).bind λr1=>bif !r1 then d c else e a b (zW zI (c+1))) else f
def amP{R:Type}(a:Int)(b:Int->ae R):ae R:=
 b a
def amQ{R:Type}(a:Int->ae R):ae R:=
 a (-1:Int)
def T9:Nat->Int->af->Int->ae (Sum Int Unit)
 |0,_,_,_=>none
 |k+1,v0,v1,v2=>Jt v0 v1 v2 (λa0=>some (.inl a0)) (λa0 a1 a2=>T9 k a0 a1 a2) (some (.inr ()))
def Q75(a:Int)(b:af):ae Int:=
 RU a b (λa0 a1 a2=>(T9 bG a0 a1 a2).bind λe=>aI (λ(we:Int)=>amP we (λa0=>some a0)) (λ(we:Unit)=>amQ (λa0=>some a0)) e)
def RX{R:Type}(a b:Int)(c:Bool->ae R)(d:Int->Int->Int->ae R):ae R:=
 bif a<1 then c false else bif 6<a then c false else bif b<1 then c false else bif 6<b then c false else d a b 0
def amR{R:Type}(a b c:Int)(d:Bool->ae R)(e:Int->Int->Int->ae R)(f:ae R):ae R:=
 bif c<256 then(KA b (zW zU c)).bind λr1=>bif r1 then(KA a (zW zU c)).bind λr2=>bif !r2 then d false else e a b (zW zI (c+1)) else e a b (zW zI (c+1)) else f
def amS{R:Type}(a:Bool)(b:Bool->ae R):ae R:=
 b a
def amT{R:Type}(a:Bool->ae R):ae R:=
 a true
def RW:Nat->Int->Int->Int->ae (Sum Bool Unit)
 |0,_,_,_=>none
 |k+1,v0,v1,v2=>amR v0 v1 v2 (λa0=>some (.inl a0)) (λa0 a1 a2=>RW k a0 a1 a2) (some (.inr ()))
def Uw(a b:Int):ae Bool:=
 RX a b (λa0=>some a0) (λa0 a1 a2=>(RW bG a0 a1 a2).bind λe=>aI (λ(we:Bool)=>amS we (λa0=>some a0)) (λ(we:Unit)=>amT (λa0=>some a0)) e)
def amX{R:Type}(a:Int)(b:Int->ae R):ae R:=
 bif a=0 then b 0 else bif cB (zW zU (dc a 32)) 2=1 then b 0 else bif cB a 32=31 then b 2 else b 1
def KB(a:Int):ae Int:=
 amX a (λa0=>some a0)
def Jv{R:Type}(a:af)(b:Int)(c:Int->Int->Int->ae R):ae R:=
 bif b<0 then c 0 0 1 else bif(a.size:Int)<b then c 0 0 1 else bif b=(a.size:Int) then c 0 0 2 else zd b a.size ((KB (ze a b.toNat)).bind λr1=>bif r1=0 then c 0 0 13 else bif r1=1 then zd b a.size (c (zW zI (ze a b.toNat)) (zW zI (b+1)) 0) else bif zW zI ((a.size:Int)-b)<2 then c 0 0 2 else zd (zW zI (b+1)) a.size (bif ze a (zW zI (b+(1:Int))).toNat=0 then c 0 0 13 else zd (zW zI (b+1)) a.size (bif 127<ze a (zW zI (b+(1:Int))).toNat then c 0 0 13 else zd b a.size (zd (zW zI (b+1)) a.size (c (zW zI (zW zI (256*zW zI (ze a b.toNat))+zW zI (ze a (zW zI (b+(1:Int))).toNat))) (zW zI (b+2)) 0)))))
def KC(a:af)(b:Int):ae sC:=
 Jv a b (λa0 a1 a2=>some (a0,a1,a2))
def Jw{R:Type}(a:af)(b:Int)(c:Int->Int->Int->ae R):ae R:=
 bif b<0 then c 0 0 1 else bif(a.size:Int)<b then c 0 0 1 else bif b=(a.size:Int) then c 0 0 2 else zd b a.size (bif zW zI (ze a b.toNat)<128 then c (zW zI (ze a b.toNat)) (zW zI (b+1)) 0 else bif !decide (zW zI (ze a b.toNat)=129) then bif !decide (zW zI (ze a b.toNat)=130) then c 0 0 14 else bif zW zI ((a.size:Int)-b)<zW zI (zW zI (ze a b.toNat)-127) then c 0 0 2 else bif zW zI (ze a b.toNat)=129 then zd (zW zI (b+1)) a.size (bif ze a (zW zI (b+(1:Int))).toNat<128 then c 0 0 14 else zd (zW zI (b+1)) a.size (c (zW zI (ze a (zW zI (b+(1:Int))).toNat)) (zW zI (b+2)) 0)) else zd (zW zI (b+1)) a.size (bif ze a (zW zI (b+(1:Int))).toNat=0 then c 0 0 14 else zd (zW zI (b+1)) a.size (zd (zW zI (b+2)) a.size (c (zW zI (zW zI (256*zW zI (ze a (zW zI (b+(1:Int))).toNat))+zW zI (ze a (zW zI (b+(2:Int))).toNat))) (zW zI (b+3)) 0))) else bif zW zI ((a.size:Int)-b)<zW zI (zW zI (ze a b.toNat)-127) then c 0 0 2 else bif zW zI (ze a b.toNat)=129 then zd (zW zI (b+1)) a.size (bif ze a (zW zI (b+(1:Int))).toNat<128 then c 0 0 14 else zd (zW zI (b+1)) a.size (c (zW zI (ze a (zW zI (b+(1:Int))).toNat)) (zW zI (b+2)) 0)) else zd (zW zI (b+1)) a.size (bif ze a (zW zI (b+(1:Int))).toNat=0 then c 0 0 14 else zd (zW zI (b+1)) a.size (zd (zW zI (b+2)) a.size (c (zW zI (zW zI (256*zW zI (ze a (zW zI (b+(1:Int))).toNat))+zW zI (ze a (zW zI (b+(2:Int))).toNat))) (zW zI (b+3)) 0))))
def KD(a:af)(b:Int):ae sC:=
 Jw a b (λa0 a1 a2=>some (a0,a1,a2))
def RZ{R:Type}(a:cN)(b c:Int)(d:cN->Int->Int->Int->ae R):ae R:=
 d a b c 0
def Jz{R:Type}(a:cN)(b c d:Int)(e:Bool->ae R)(f:cN->Int->Int->Int->ae R)(g:ae R):ae R:=
 bif d<b then zd d (ag a) (bif(ah a d.toNat (0,bs [],())).1=c then e true else f a b c (zW zI (d+1))) else g
def am1{R:Type}(a:Bool)(b:Bool->ae R):ae R:=
 b a
def am2{R:Type}(a:Bool->ae R):ae R:=
 a false
def Ub:Nat->cN->Int->Int->Int->ae (Sum Bool Unit)
 |0,_,_,_,_=>none
 |k+1,v0,v1,v2,v3=>Jz v0 v1 v2 v3 (λa0=>some (.inl a0)) (λa0 a1 a2 a3=>Ub k a0 a1 a2 a3) (some (.inr ()))
def Q90(a:cN)(b c:Int):ae Bool:=
 RZ a b c (λa0 a1 a2 a3=>(Ub bG a0 a1 a2 a3).bind λe=>aI (λ(we:Bool)=>am1 we (λa0=>some a0)) (λ(we:Unit)=>am2 (λa0=>some a0)) e)
def Jx{R:Type}(a:af)(b:af->cN->Int->ae R):ae R:=
 b a [] 0
def Jy{R:Type}(a:af)(b:cN)(c:Int)(d:cN->Int->Int->cN->ae R)(e:af->cN->Int->ae R)(f:cN->ae R):ae R:=
 bif c<(a.size:Int) then(KC a c).bind λr1=>bif !decide (r1.2.2=0) then d [] r1.2.2 c b else(KD a r1.2.1).bind λr2=>bif !decide (r2.2.2=0) then d [] r2.2.2 r1.2.1 b else bif zW zI ((a.size:Int)-r2.2.1)<r2.1 then d [] 2 (a.size:Int) b else(Q90 b ((ag b):Int) r1.1).bind λr3=>bif r3 then d [] 10 c b else bif 0<=zW zI (r2.2.1+r2.1) then bif zW zI (r2.2.1+r2.1)<=(a.size:Int) then bif 0<=r2.2.1 then bif r2.2.1<=(((zW zI (r2.2.1+r2.1)).toNat:Nat):Int) then bif(ag b+ag ([(r1.1,a.extract r2.2.1.toNat (zW zI (r2.2.1+r2.1)).toNat,())]:List eQ))*24<=140737488355328 then e a (b++([(r1.1,a.extract r2.2.1.toNat (zW zI (r2.2.1+r2.1)).toNat,())]:List eQ)) (zW zI (r2.2.1+r2.1)) else none else none else none else none else none else f b
def amY{R:Type}(a:cN)(b c:Int)(d:cN)(e:cN->Int->Int->ae R):ae R:=
 e a b c
def amZ{R:Type}(a:cN)(b:cN->Int->Int->ae R):ae R:=
 b a 0 0
def LK:Nat->af->cN->Int->ae (Sum BW cN)
 |0,_,_,_=>none
 |k+1,v0,v1,v2=>Jy v0 v1 v2 (λa0 a1 a2 a3=>some (.inl (a0,a1,a2,a3))) (λa0 a1 a2=>LK k a0 a1 a2) (λa0=>some (.inr a0))
def KE(a:af):ae (Sum tK tK):=
 Jx a (λa0 a1 a2=>(LK bG a0 a1 a2).bind λe=>aI (λ(we:BW)=>amY we.1 we.2.1 we.2.2.1 we.2.2.2 (λa0 a1 a2=>some (.inl (a0,a1,a2)))) (λ(we:cN)=>amZ we (λa0 a1 a2=>some (.inr (a0,a1,a2)))) e)
def R0{R:Type}(a:dR)(b:Int->ae R):ae R:=
 bif a.1<2 then b 1 else bif 128<a.1 then b 1 else bif a.2.1<1 then b 6 else bif 6<a.2.1 then b 6 else bif a.2.2.1<1 then b 3 else bif 3<a.2.2.1 then b 3 else bif a.2.2.1=2 then bif a.2.2.2.1<1 then b 5 else bif a.2.2.2.2.1<a.2.2.2.1 then b 5 else bif 99<a.2.2.2.2.1 then b 5 else bif a.2.2.1=1 then bif !decide (a.2.2.2.1=a.2.2.2.2.1) then b 5 else bif a.2.2.1=1 then bif a.2.1=6 then b 13 else b 0 else b 0 else bif a.2.2.1=1 then bif a.2.1=6 then b 13 else b 0 else b 0 else bif a.2.2.2.1<1 then b 5 else bif a.2.2.2.2.1<a.2.2.2.1 then b 5 else bif 999<a.2.2.2.2.1 then b 5 else bif a.2.2.1=1 then bif !decide (a.2.2.2.1=a.2.2.2.2.1) then b 5 else bif a.2.2.1=1 then bif a.2.1=6 then b 13 else b 0 else b 0 else bif a.2.2.1=1 then bif a.2.1=6 then b 13 else b 0 else b 0
def KG(a:dR):ae Int:=
 R0 a (λa0=>some a0)
def ZZ{R:Type}(a:dR)(b:af)(c:Int->ae R):ae R:=
 (KG a).bind λr1=>bif !decide (r1=0) then c 1 else bif(b.size:Int)<a.2.2.2.1 then c 5 else bif a.2.2.2.2.1<(b.size:Int) then c 5 else(Q75 a.2.1 b).bind λr2=>bif 0<=r2 then c 6 else bif a.2.1=6 then(KE b).bind λr3=>aI (λ(C5:tK)=>bif !decide (C5.2.1=0) then c 13 else c 0) (λ(C5:tK)=>bif !decide (C5.2.1=0) then c 13 else c 0) r3 else c 0
def xt(a:dR)(b:af):ae Int:=
 ZZ a b (λa0=>some a0)
def Z0{R:Type}(a b:dR)(c:Bool->ae R):ae R:=
 (KG a).bind λr1=>bif !decide (r1=0) then c false else(KG b).bind λr2=>bif !decide (r2=0) then c false else bif b.2.2.2.1<a.2.2.2.1 then c false else bif a.2.2.2.2.1<b.2.2.2.2.1 then c false else bif a.2.1=5 then c true else bif a.2.1=6 then c (decide (a.2.1=b.2.1)) else bif b.2.1=6 then c (decide (a.2.1=b.2.1)) else(Uw a.2.1 b.2.1).bind λr3=>c r3
def FQ(a b:dR):ae Bool:=
 Z0 a b (λa0=>some a0)
def R3{R:Type}(a:bC)(b:Int->Int->ae R)(c:Int->Int->bC->ae R):ae R:=
 bif !decide (a.1=1) then bif !decide (a.1=2) then b 1 (-1:Int) else bif a.2.1<0 then b 7 (-1:Int) else bif 9<a.2.1 then b 7 (-1:Int) else c 0 0 a else bif a.2.1<0 then b 7 (-1:Int) else bif 9<a.2.1 then b 7 (-1:Int) else c 0 0 a
def JA{R:Type}(a b:Int)(c:bC)(d:Int->Int->ae R)(e:Int->Int->bC->ae R)(f:ae R):ae R:=
 bif b<((ag c.2.2.1):Int) then zd b (ag c.2.2.1) ((KG (ah c.2.2.1 b.toNat (0,0,0,0,0,()))).bind λr1=>bif !decide (r1=0) then d r1 b else zd b (ag c.2.2.1) (bif(ah c.2.2.1 b.toNat (0,0,0,0,0,())).1<=a then d 11 b else zd b (ag c.2.2.1) (e (ah c.2.2.1 b.toNat (0,0,0,0,0,())).1 (zW zI (b+1)) c))) else f
def R4{R:Type}(a b:Int)(c:Int->Int->ae R):ae R:=
 c a b
def R5{R:Type}(a:Int->Int->ae R):ae R:=
 a 0 0
def Kt:Nat->Int->Int->bC->ae (Sum (Int×Int) Unit)
 |0,_,_,_=>none
 |k+1,v0,v1,v2=>JA v0 v1 v2 (λa0 a1=>some (.inl (a0,a1))) (λa0 a1 a2=>Kt k a0 a1 a2) (some (.inr ()))
def Q97(a:bC):ae (Int×Int):=
 R3 a (λa0 a1=>some (a0,a1)) (λa0 a1 a2=>(Kt bG a0 a1 a2).bind λe=>aI (λ(we:(Int×Int))=>R4 we.1 we.2 (λa0 a1=>some (a0,a1))) (λ(we:Unit)=>R5 (λa0 a1=>some (a0,a1))) e)
def Qh{R:Type}(a:bC)(b:Bool->ae R):ae R:=
 (Q97 a).bind λr1=>b (decide (r1.1=0))
def Bd(a:bC):ae Bool:=
 Qh a (λa0=>some a0)
def R6{R:Type}(a:bC)(b:Int)(c:Int->Int->bC->ae R):ae R:=
 c b 0 a
def am3{R:Type}(a b:Int)(c:bC)(d:Int->ae R)(e:Int->Int->bC->ae R)(f:ae R):ae R:=
 bif b<((ag c.2.2.1):Int) then zd b (ag c.2.2.1) (bif(ah c.2.2.1 b.toNat (0,0,0,0,0,())).1=a then d b else e a (zW zI (b+1)) c) else f
def am4{R:Type}(a:Int)(b:Int->ae R):ae R:=
 b a
def am5{R:Type}(a:Int->ae R):ae R:=
 a (-1:Int)
def JB:Nat->Int->Int->bC->ae (Sum Int Unit)
 |0,_,_,_=>none
 |k+1,v0,v1,v2=>am3 v0 v1 v2 (λa0=>some (.inl a0)) (λa0 a1 a2=>JB k a0 a1 a2) (some (.inr ()))
def KH(a:bC)(b:Int):ae Int:=
 R6 a b (λa0 a1 a2=>(JB bG a0 a1 a2).bind λe=>aI (λ(we:Int)=>am4 we (λa0=>some a0)) (λ(we:Unit)=>am5 (λa0=>some a0)) e)
def z162{R:Type}(a:af)(b:Bool->ae R):ae R:=
 bif(a.size:Int)=4 then(Uv a).bind λr1=>b r1 else b false
def HM(a:af):ae Bool:=
 z162 a (λa0=>some a0)
def Qi{R:Type}(a:af)(b:Bool->ae R):ae R:=
 (Q66 a).bind λr1=>bif r1.2 then bif(a.size:Int)=4 then bif cB (zW zI (dc r1.1 10)) 10=0 then b true else b (decide (cB (zW zI (dc r1.1 10)) 10=2)) else b false else b false
def Dl(a:af):ae Bool:=
 Qi a (λa0=>some a0)
def Qp{R:Type}(a:dm)(b c:bC)(d:Bool->dm->bC->bC->ae R):ae R:=
 bif a.1<1 then d true a b c else d (decide (5<a.1)) a b c
def akc{R:Type}(a:Bool)(b:dm)(c d:bC)(e:Int->ae R)(f:dm->bC->bC->ae R):ae R:=
 bif a then e 1 else f b c d
def Qq{R:Type}(a:dm)(b c:bC)(d:Int->Int->Bool->dm->bC->bC->ae R):ae R:=
 (KH b a.2.1).bind λr1=>(KH c a.2.2.1).bind λr2=>bif a.1=3 then bif !decide (a.2.1=0) then d r1 r2 true a b c else bif !decide (a.1=3) then d r1 r2 (decide (r1<0)) a b c else d r1 r2 false a b c else bif !decide (a.1=3) then d r1 r2 (decide (r1<0)) a b c else d r1 r2 false a b c
def akd{R:Type}(a b:Int)(c:Bool)(d:dm)(e f:bC)(g:Int->ae R)(h:Int->Int->dm->bC->bC->ae R):ae R:=
 bif c then g 9 else h a b d e f
def Qr{R:Type}(a b:Int)(c:dm)(d e:bC)(f:Int->Int->Bool->dm->bC->bC->ae R):ae R:=
 bif c.1=2 then bif !decide (c.2.2.1=0) then f a b true c d e else bif !decide (c.1=2) then f a b (decide (b<0)) c d e else f a b false c d e else bif !decide (c.1=2) then f a b (decide (b<0)) c d e else f a b false c d e
def ake{R:Type}(a b:Int)(c:Bool)(d:dm)(e f:bC)(g:Int->ae R)(h:Int->Int->dm->bC->bC->ae R):ae R:=
 bif c then g 9 else h a b d e f
def Qs{R:Type}(a b:Int)(c:dm)(d e:bC)(f:Int->Int->Bool->dm->bC->bC->ae R):ae R:=
 bif !decide (c.2.2.2.1=bs []) then bif !decide (c.1=3) then f a b true c d e else bif 0<((ag c.2.2.2.2.1):Int) then f a b (!decide (c.1=5)) c d e else f a b false c d e else bif 0<((ag c.2.2.2.2.1):Int) then f a b (!decide (c.1=5)) c d e else f a b false c d e
def akf{R:Type}(a b:Int)(c:Bool)(d:dm)(e f:bC)(g:Int->ae R)(h:Int->Int->dm->bC->bC->ae R):ae R:=
 bif c then g 3 else h a b d e f
def Qt{R:Type}(a b:Int)(c:dm)(d e:bC)(f:Int->ae R)(g:ae R)(h:Bool->ae R)(i:Int->Int->Bool->dm->bC->bC->ae R):ae R:=
 bif c.1=1 then zd b (ag e.2.2.1) (zd a (ag d.2.2.1) ((FQ (ah e.2.2.1 b.toNat (0,0,0,0,0,())) (ah d.2.2.1 a.toNat (0,0,0,0,0,()))).bind λr3=>bif !r3 then f 6 else g)) else bif c.1=3 then zd b (ag e.2.2.1) ((xt (ah e.2.2.1 b.toNat (0,0,0,0,0,())) c.2.2.2.1).bind λr4=>f r4) else bif c.1=4 then zd a (ag d.2.2.1) (zd b (ag e.2.2.1) (bif !decide ((ah d.2.2.1 a.toNat (0,0,0,0,0,())).2.1=1) then h true else bif !decide ((ah d.2.2.1 a.toNat (0,0,0,0,0,())).2.2.1=1) then h true else bif !decide ((ah e.2.2.1 b.toNat (0,0,0,0,0,())).2.1=1) then h true else h (!decide ((ah e.2.2.1 b.toNat (0,0,0,0,0,())).2.2.1=1)))) else bif c.1=5 then(HO c.2.2.2.2.1).bind λr5=>bif !decide (r5.1=0) then i a b true c d e else i a b (decide (((ag c.2.2.2.2.1):Int)=0)) c d e else g
def akg{R:Type}(a:Int->ae R):ae R:=
 a 0
def ahf{R:Type}(a:Bool)(b:Int->ae R)(c:ae R):ae R:=
 bif a then b 6 else c
def ahg{R:Type}(a b:Int)(c:Bool)(d:dm)(e f:bC)(g:Int->ae R)(h:Int->Int->dm->bC->bC->ae R):ae R:=
 bif c then g 15 else h a b d e f
def O5{R:Type}(a b:Int)(c:dm)(d e:bC)(f:Int->Int->Int->dm->bC->bC->ae R):ae R:=
 f a b 0 c d e
def zn4{R:Type}(a b c:Int)(d:dm)(e f:bC)(g:Int->Int->Int->dm->bC->bC->ae R)(h:ae R):ae R:=
 bif c<((ag d.2.2.2.2.1):Int) then g a b c d e f else h
def O6{R:Type}(a b c:Int)(d:dm)(e f:bC)(g:Int->ae R)(h:Int->Int->Int->dm->bC->bC->ae R):ae R:=
 zd a (ag e.2.2.1) (zd c (ag d.2.2.2.2.1) ((xt (ah e.2.2.1 a.toNat (0,0,0,0,0,())) (ah d.2.2.2.2.1 c.toNat (bs [],bs [],())).1).bind λr6=>bif !decide (r6=0) then g r6 else h a b c d e f))
def ahh{R:Type}(a:ae R):ae R:=
 a
def ahi{R:Type}(a:Int)(b:Int->ae R):ae R:=
 b a
def O7{R:Type}(a b c:Int)(d:dm)(e f:bC)(g:Int->ae R)(h:Int->Int->Int->dm->bC->bC->ae R):ae R:=
 zd b (ag f.2.2.1) (zd c (ag d.2.2.2.2.1) ((xt (ah f.2.2.1 b.toNat (0,0,0,0,0,())) (ah d.2.2.2.2.1 c.toNat (bs [],bs [],())).2.1).bind λr7=>bif !decide (r7=0) then g r7 else h a b c d e f))
def O8{R:Type}(a b c:Int)(d:dm)(e f:bC)(g:Int->Int->Int->dm->bC->bC->ae R):ae R:=
 g a b (zW zI (c+1)) d e f
def Hu:Nat->Int->Int->Int->dm->bC->bC->ae (Sum Unit Int)
 |0,_,_,_,_,_,_=>none
 |k+1,v0,v1,v2,v3,v4,v5=>zn4 v0 v1 v2 v3 v4 v5 (λa0 a1 a2 a3 a4 a5=>O6 a0 a1 a2 a3 a4 a5 (λa0=>some (.inr a0)) (λa0 a1 a2 a3 a4 a5=>O7 a0 a1 a2 a3 a4 a5 (λa0=>some (.inr a0)) (λa0 a1 a2 a3 a4 a5=>O8 a0 a1 a2 a3 a4 a5 (λa0 a1 a2 a3 a4 a5=>Hu k a0 a1 a2 a3 a4 a5)))) (some (.inl ()))
def zt8:ae Int:=
 akg (λa0=>some a0)
def Qo(a:Bool):ae Int:=
 ahf a (λa0=>some a0) zt8
def VO(a b:Int)(c:dm)(d f:bC):ae Int:=
 O5 a b c d f (λa0 a1 a2 a3 a4 a5=>(Hu bG a0 a1 a2 a3 a4 a5).bind λe=>aI (λ(we:Unit)=>ahh zt8) (λ(we:Int)=>ahi we (λa0=>some a0)) e)
def O4(a b:Int)(c:Bool)(d:dm)(e f:bC):ae Int:=
 ahg a b c d e f (λa0=>some a0) (λa0 a1 a2 a3 a4=>VO a0 a1 a2 a3 a4)
def V8(a b:Int)(c:dm)(d e:bC):ae Int:=
 Qt a b c d e (λa0=>some a0) zt8 (λa0=>Qo a0) (λa0 a1 a2 a3 a4 a5=>O4 a0 a1 a2 a3 a4 a5)
def Qn(a b:Int)(c:Bool)(d:dm)(e f:bC):ae Int:=
 akf a b c d e f (λa0=>some a0) (λa0 a1 a2 a3 a4=>V8 a0 a1 a2 a3 a4)
def z87(a b:Int)(c:dm)(d e:bC):ae Int:=
 Qs a b c d e (λa0 a1 a2 a3 a4 a5=>Qn a0 a1 a2 a3 a4 a5)
def Qm(a b:Int)(c:Bool)(d:dm)(e f:bC):ae Int:=
 ake a b c d e f (λa0=>some a0) (λa0 a1 a2 a3 a4=>z87 a0 a1 a2 a3 a4)
def V7(a b:Int)(c:dm)(d e:bC):ae Int:=
 Qr a b c d e (λa0 a1 a2 a3 a4 a5=>Qm a0 a1 a2 a3 a4 a5)
def J5(a b:Int)(c:Bool)(d:dm)(e f:bC):ae Int:=
 akd a b c d e f (λa0=>some a0) (λa0 a1 a2 a3 a4=>V7 a0 a1 a2 a3 a4)
def zt7(a:dm)(b c:bC):ae Int:=
 Qq a b c (λa0 a1 a2 a3 a4 a5=>J5 a0 a1 a2 a3 a4 a5)
def z168(a:Bool)(b:dm)(c d:bC):ae Int:=
 akc a b c d (λa0=>some a0) (λa0 a1 a2=>zt7 a0 a1 a2)
def HQ(a:dm)(b c:bC):ae Int:=
 Qp a b c (λa0 a1 a2 a3=>z168 a0 a1 a2 a3)
def Qy{R:Type}(a:af)(b:Int)(c:Bool->ae R):ae R:=
 (HM a).bind λr1=>bif r1 then zd 0 a.size (c (decide (zW zI (zW zI (ze a ((0:Int)).toNat)-48)=b))) else c false
def Dn(a:af)(b:Int):ae Bool:=
 Qy a b (λa0=>some a0)
def Qx{R:Type}(a b:dm)(c:Bool->ae R):ae R:=
 bif !decide (a.2.1=0) then bif a.2.1=b.2.1 then c true else bif !decide (a.2.2.1=0) then c (decide (a.2.2.1=b.2.2.1)) else c false else bif !decide (a.2.2.1=0) then c (decide (a.2.2.1=b.2.2.1)) else c false
def HS(a b:dm):ae Bool:=
 Qx a b (λa0=>some a0)
def Qu{R:Type}(a:dF)(b c:bC)(d:Int->Int->Int->ae R)(e:Int->dF->bC->bC->ae R):ae R:=
 (Bd b).bind λr1=>bif !r1 then d 1 1 0 else(Bd c).bind λr2=>bif !r2 then d 1 1 1 else bif 256<((ag a.1):Int) then d 5 2 256 else e 0 a b c
def zt9{R:Type}(a:Int)(b:dF)(c d:bC)(e:Int->Int->Int->dF->bC->bC->ae R)(f:Int->dF->bC->bC->ae R)(g:dF->bC->bC->ae R):ae R:=
 bif a<((ag b.1):Int) then zd a (ag b.1) ((Dn (ah b.1 a.toNat (bs [],bs [],())).1 c.2.1).bind λr3=>bif !r3 then e 7 2 a b c d else(Dn (ah b.1 a.toNat (bs [],bs [],())).2.1 d.2.1).bind λr4=>bif !r4 then e 7 2 a b c d else(Dl (ah b.1 a.toNat (bs [],bs [],())).1).bind λr5=>(Dl (ah b.1 a.toNat (bs [],bs [],())).2.1).bind λr6=>bif !(r5==r6) then e 7 2 a b c d else bif 0<=a then bif a<=(((ag b.1):Nat):Int) then(HN (bu 0 (aJ a.toNat b.1)) (ah b.1 a.toNat (bs [],bs [],())).1).bind λr7=>bif r7.2 then e 10 2 a b c d else f (zW zI (a+1)) b c d else none else none) else g b c d
def akh{R:Type}(a b c:Int)(d:dF)(e f:bC)(g:Int->Int->Int->ae R):ae R:=
 g a b c
def Qv{R:Type}(a:dF)(b c:bC)(d:Int->Int->Int->ae R)(e:Int->dF->bC->bC->ae R):ae R:=
 bif 256<((ag a.2.1):Int) then d 5 3 256 else e 0 a b c
def zta{R:Type}(a:Int)(b:dF)(c d:bC)(e:Int->Int->Int->ae R)(f:Int->Int->dF->bC->bC->ae R)(g:ae R):ae R:=
 bif a<((ag b.2.1):Int) then zd a (ag b.2.1) ((HQ (ah b.2.1 a.toNat (0,0,0,bs [],[],())) c d).bind λr8=>bif !decide (r8=0) then e r8 3 a else f a 0 b c d) else g
def aki{R:Type}(a b c:Int)(d:Int->Int->Int->ae R):ae R:=
 d a b c
def akj{R:Type}(a:Int->Int->Int->ae R):ae R:=
 a 0 0 0
def ztb{R:Type}(a b:Int)(c:dF)(d e:bC)(f:Int->Int->Int->Int->dF->bC->bC->ae R)(g:Int->Int->dF->bC->bC->ae R)(h:Int->dF->bC->bC->ae R):ae R:=
 bif b<a then zd b (ag c.2.1) (zd a (ag c.2.1) ((HS (ah c.2.1 b.toNat (0,0,0,bs [],[],())) (ah c.2.1 a.toNat (0,0,0,bs [],[],()))).bind λr9=>bif r9 then f 10 3 a a c d e else g a (zW zI (b+1)) c d e)) else h a c d e
def akk{R:Type}(a b c d:Int)(e:dF)(f g:bC)(h:Int->Int->Int->ae R):ae R:=
 h a b c
def Qw{R:Type}(a:Int)(b:dF)(c d:bC)(e:Int->dF->bC->bC->ae R):ae R:=
 e (zW zI (a+1)) b c d
def S5:Nat->Int->dF->bC->bC->ae (Sum vO vN)
 |0,_,_,_,_=>none
 |k+1,v0,v1,v2,v3=>zt9 v0 v1 v2 v3 (λa0 a1 a2 a3 a4 a5=>some (.inl (a0,a1,a2,a3,a4,a5))) (λa0 a1 a2 a3=>S5 k a0 a1 a2 a3) (λa0 a1 a2=>some (.inr (a0,a1,a2)))
def S7:Nat->Int->Int->dF->bC->bC->ae (Sum (Int×Int×Int×Int×dF×bC×bC) (Int×dF×bC×bC))
 |0,_,_,_,_,_=>none
 |k+1,v0,v1,v2,v3,v4=>ztb v0 v1 v2 v3 v4 (λa0 a1 a2 a3 a4 a5 a6=>some (.inl (a0,a1,a2,a3,a4,a5,a6))) (λa0 a1 a2 a3 a4=>S7 k a0 a1 a2 a3 a4) (λa0 a1 a2 a3=>some (.inr (a0,a1,a2,a3)))
def S6:Nat->Int->dF->bC->bC->ae (Sum sC Unit)
 |0,_,_,_,_=>none
 |k+1,v0,v1,v2,v3=>zta v0 v1 v2 v3 (λa0 a1 a2=>some (.inl (a0,a1,a2))) (λa0 a1 a2 a3 a4=>(S7 bG a0 a1 a2 a3 a4).bind λe=>aI (λ(we:(Int×Int×Int×Int×dF×bC×bC))=>akk we.1 we.2.1 we.2.2.1 we.2.2.2.1 we.2.2.2.2.1 we.2.2.2.2.2.1 we.2.2.2.2.2.2 (λa0 a1 a2=>some (.inl (a0,a1,a2)))) (λ(we:(Int×dF×bC×bC))=>Qw we.1 we.2.1 we.2.2.1 we.2.2.2 (λa0 a1 a2 a3=>S6 k a0 a1 a2 a3)) e) (some (.inr ()))
def HR(a:dF)(b c:bC):ae sC:=
 Qu a b c (λa0 a1 a2=>some (a0,a1,a2)) (λa0 a1 a2 a3=>(S5 bG a0 a1 a2 a3).bind λe=>aI (λ(we:vO)=>akh we.1 we.2.1 we.2.2.1 we.2.2.2.1 we.2.2.2.2.1 we.2.2.2.2.2 (λa0 a1 a2=>some (a0,a1,a2))) (λ(we:vN)=>Qv we.1 we.2.1 we.2.2 (λa0 a1 a2=>some (a0,a1,a2)) (λa0 a1 a2 a3=>(S6 bG a0 a1 a2 a3).bind λe=>aI (λ(we:sC)=>aki we.1 we.2.1 we.2.2 (λa0 a1 a2=>some (a0,a1,a2))) (λ(we:Unit)=>akj (λa0 a1 a2=>some (a0,a1,a2))) e)) e)
def QC{R:Type}(a:cN)(b c:Int)(d:cN->Int->Int->Int->ae R):ae R:=
 d a b c 0
def zte{R:Type}(a:cN)(b c d:Int)(e:Int->ae R)(f:cN->Int->Int->Int->ae R)(g:ae R):ae R:=
 bif d<b then zd d (ag a) (bif(ah a d.toNat (0,bs [],())).1=c then e d else f a b c (zW zI (d+1))) else g
def akn{R:Type}(a:Int)(b:Int->ae R):ae R:=
 b a
def ako{R:Type}(a:Int->ae R):ae R:=
 a (-1:Int)
def Ta:Nat->cN->Int->Int->Int->ae (Sum Int Unit)
 |0,_,_,_,_=>none
 |k+1,v0,v1,v2,v3=>zte v0 v1 v2 v3 (λa0=>some (.inl a0)) (λa0 a1 a2 a3=>Ta k a0 a1 a2 a3) (some (.inr ()))
def Dp(a:cN)(b c:Int):ae Int:=
 QC a b c (λa0 a1 a2 a3=>(Ta bG a0 a1 a2 a3).bind λe=>aI (λ(we:Int)=>akn we (λa0=>some a0)) (λ(we:Unit)=>ako (λa0=>some a0)) e)
def Qz{R:Type}(a:cO)(b:Int->Int->Int->ae R)(c:Int->Int->cO->ae R):ae R:=
 (Bd a.1).bind λr1=>bif !r1 then b 1 1 0 else(KH a.1 (39:Int)).bind λr2=>bif r2<0 then b 9 1 1 else c r2 0 a
def ztc{R:Type}(a b:Int)(c:cO)(d:Int->Int->Int->Int->cO->ae R)(e:Int->Int->cO->ae R)(f:Int->cO->ae R):ae R:=
 bif b<((ag c.2.2.1):Int) then zd b (ag c.2.2.1) ((KH c.1 (ah c.2.2.1 b.toNat (0:Int))).bind λr3=>bif r3<0 then d 9 2 b a c else zd b (ag c.2.2.1) (bif ah c.2.2.1 b.toNat 0=39 then d 1 2 b a c else bif 0<=b then bif b<=(((ag c.2.2.1):Nat):Int) then zd b (ag c.2.2.1) ((Q78 (bu 0 (aJ b.toNat c.2.2.1)) (ah c.2.2.1 b.toNat (0:Int))).bind λr4=>bif r4 then d 10 2 b a c else e a (zW zI (b+1)) c) else none else none)) else f a c
def akl{R:Type}(a b c d:Int)(e:cO)(f:Int->Int->Int->ae R):ae R:=
 f a b c
def QA{R:Type}(a:Int)(b:cO)(c:Int->Int->cO->ae R):ae R:=
 c a 0 b
def ztd{R:Type}(a b:Int)(c:cO)(d:Int->Int->Int->cO->ae R)(e:Int->Int->cO->ae R)(f:cO->ae R):ae R:=
 bif b<((ag c.2.2.2.1):Int) then zd b (ag c.2.2.2.1) (bif(ah c.2.2.2.1 b.toNat (0,bs [],())).1<0 then d 1 3 b c else zd b (ag c.2.2.2.1) (bif 16<(ah c.2.2.2.1 b.toNat (0,bs [],())).1 then d 1 3 b c else zd b (ag c.2.2.2.1) ((Dp c.2.2.2.1 b (ah c.2.2.2.1 b.toNat (0,bs [],())).1).bind λr5=>bif 0<=r5 then d 10 3 b c else zd a (ag c.1.2.2.1) (zd b (ag c.2.2.2.1) ((xt (ah c.1.2.2.1 a.toNat (0,0,0,0,0,())) (ah c.2.2.2.1 b.toNat (0,bs [],())).2.1).bind λr6=>bif !decide (r6=0) then d r6 3 b c else e a (zW zI (b+1)) c))))) else f c
def akm{R:Type}(a b c:Int)(d:cO)(e:Int->Int->Int->ae R):ae R:=
 e a b c
def QB{R:Type}(a:cO)(b:Int->Int->Int->ae R):ae R:=
 (Dp a.2.2.2.1 ((ag a.2.2.2.1):Int) (0:Int)).bind λr7=>bif r7<0 then b 15 3 ((ag a.2.2.2.1):Int) else b 0 0 0
def S8:Nat->Int->Int->cO->ae (Sum (Int×Int×Int×Int×cO) (Int×cO))
 |0,_,_,_=>none
 |k+1,v0,v1,v2=>ztc v0 v1 v2 (λa0 a1 a2 a3 a4=>some (.inl (a0,a1,a2,a3,a4))) (λa0 a1 a2=>S8 k a0 a1 a2) (λa0 a1=>some (.inr (a0,a1)))
def S9:Nat->Int->Int->cO->ae (Sum (Int×Int×Int×cO) cO)
 |0,_,_,_=>none
 |k+1,v0,v1,v2=>ztd v0 v1 v2 (λa0 a1 a2 a3=>some (.inl (a0,a1,a2,a3))) (λa0 a1 a2=>S9 k a0 a1 a2) (λa0=>some (.inr a0))
def HT(a:cO):ae sC:=
 Qz a (λa0 a1 a2=>some (a0,a1,a2)) (λa0 a1 a2=>(S8 bG a0 a1 a2).bind λe=>aI (λ(we:(Int×Int×Int×Int×cO))=>akl we.1 we.2.1 we.2.2.1 we.2.2.2.1 we.2.2.2.2 (λa0 a1 a2=>some (a0,a1,a2))) (λ(we:(Int×cO))=>QA we.1 we.2 (λa0 a1 a2=>(S9 bG a0 a1 a2).bind λe=>aI (λ(we:(Int×Int×Int×cO))=>akm we.1 we.2.1 we.2.2.1 we.2.2.2 (λa0 a1 a2=>some (a0,a1,a2))) (λ(we:cO)=>QB we (λa0 a1 a2=>some (a0,a1,a2))) e)) e)
def ztk{R:Type}(a:(List af))(b:(List af)->dD->Int->ae R):ae R:=
 b a [] 0
def ztl{R:Type}(a:(List af))(b:dD)(c:Int)(d:(List af)->dD->Int->ae R)(e:dD->ae R):ae R:=
 bif c<((ag a):Int) then zd c (ag a) (zd (zW zI (c+1)) (ag a) (bif(ag b+ag ([(ah a c.toNat (bs []),ah a (zW zI (c+(1:Int))).toNat (bs []),())]:List gW))*32<=140737488355328 then d a (b++([(ah a c.toNat (bs []),ah a (zW zI (c+(1:Int))).toNat (bs []),())]:List gW)) (zW zI (c+2)) else none)) else e b
def ztm{R:Type}(a:dD)(b:dD->ae R):ae R:=
 b a
def Wd:Nat->(List af)->dD->Int->ae dD
 |0,_,_,_=>none
 |k+1,v0,v1,v2=>ztl v0 v1 v2 (λa0 a1 a2=>Wd k a0 a1 a2) (λa0=>some a0)
def Bg(a:(List af)):ae dD:=
 ztk a (λa0 a1 a2=>(Wd bG a0 a1 a2).bind λe=>ztm e (λa0=>some a0))
def zth{R:Type}(a:fO->(List Int)->Int->ae R):ae R:=
 HK.bind λr1=>a [] r1 0
def zti{R:Type}(a:fO)(b:(List Int))(c:Int)(d:fO->(List Int)->Int->ae R)(e:fO->ae R):ae R:=
 bif c<((ag b):Int) then zd c (ag b) (bif ah b c.toNat 0=12 then zd c (ag b) (zd c (ag b) (bif(ag a+ag ([((4:Int),ah b c.toNat (0:Int),ah b c.toNat (0:Int),bs [],([]:List gW),())]:List dm))*64<=140737488355328 then d (a++([(4,ah b c.toNat 0,ah b c.toNat 0,bs [],[],())]:List dm)) b (zW zI (c+1)) else none)) else zd c (ag b) (zd c (ag b) (bif(ag a+ag ([((1:Int),ah b c.toNat (0:Int),ah b c.toNat (0:Int),bs [],([]:List gW),())]:List dm))*64<=140737488355328 then d (a++([(1,ah b c.toNat 0,ah b c.toNat 0,bs [],[],())]:List dm)) b (zW zI (c+1)) else none))) else e a
def ztj{R:Type}(a:fO)(b:fO->ae R):ae R:=
 b a
def Wb:Nat->fO->(List Int)->Int->ae fO
 |0,_,_,_=>none
 |k+1,v0,v1,v2=>zti v0 v1 v2 (λa0 a1 a2=>Wb k a0 a1 a2) (λa0=>some a0)
def Dt:ae fO:=
 zth (λa0 a1 a2=>(Wb bG a0 a1 a2).bind λe=>ztj e (λa0=>some a0))
def ztg{R:Type}(a b c:af)(d:cN->ae R):ae R:=
 d ([(0,a,()),(2,b,()),(3,b,()),(12,b,()),(9,b,()),(15,c,())]:List eQ)
def Ds(a b c:af):ae cN:=
 ztg a b c (λa0=>some a0)
def ztf{R:Type}(a:cU->ae R):ae R:=
 (Bg ([(bs [48,49,48,48]),bs [49,49,48,48],bs [48,49,49,48],bs [49,49,49,48],bs [48,50,48,48],bs [49,50,48,48],bs [48,50,49,48],bs [49,50,49,48],bs [48,50,50,48],bs [49,50,50,48],bs [48,50,51,48],bs [49,50,51,48],bs [48,52,48,48],bs [49,52,48,48],bs [48,52,49,48],bs [49,52,49,48],bs [48,52,50,48],bs [49,52,50,48],bs [48,52,51,48],bs [49,52,51,48],bs [48,56,48,48],bs [49,56,48,52],bs [48,56,49,48],(bs [49,56,49,52])]:List af)).bind λr1=>(Bg ([(bs [48,53,49]),bs [53,49,48,49,48,49,53,49,49,51,52,52],bs [48,50,49],bs [50,49,48,49,48,49,50,49,49,51,52,52],bs [48,49,50],(bs [49,48,48,49,52,48,49,48,48,49,49,48])]:List af)).bind λr2=>(Bg ([(bs [48,48]),bs [48,48,48],bs [48,53],bs [49,48,48],bs [49,52],bs [49,49,49],bs [53,49],bs [49,49,54],bs [53,52],bs [49,48,49],bs [57,49],bs [57,48,55],bs [57,54],(bs [57,48,57])]:List af)).bind λr3=>Dt.bind λr4=>bif(ag r4+ag ([((2:Int),(13:Int),(0:Int),bs [],([]:List gW),()),((2:Int),(18:Int),(0:Int),bs [],([]:List gW),()),((2:Int),(90:Int),(0:Int),bs [],([]:List gW),()),((5:Int),(22:Int),(22:Int),bs [],r2,()),((5:Int),(39:Int),(39:Int),bs [],r3,()),((1:Int),(43:Int),(43:Int),bs [],([]:List gW),()),((1:Int),(48:Int),(48:Int),bs [],([]:List gW),()),((3:Int),(0:Int),(26:Int),bs [53,57,57,57],([]:List gW),())]:List dm))*64<=140737488355328 then Dt.bind λr5=>(Bf r2).bind λr6=>(Bf r3).bind λr7=>bif(ag r5+ag ([((2:Int),(26:Int),(0:Int),bs [],([]:List gW),()),((2:Int),(43:Int),(0:Int),bs [],([]:List gW),()),((5:Int),(22:Int),(22:Int),bs [],r6,()),((5:Int),(39:Int),(39:Int),bs [],r7,()),((1:Int),(48:Int),(48:Int),bs [],([]:List gW),())]:List dm))*64<=140737488355328 then(Be (0:Int)).bind λr8=>(Ds (bs [57,54]) (bs [51,48]) (bs [49,50])).bind λr9=>zd 0 2 ((Be (1:Int)).bind λqZ=>(Bf r1).bind λtn=>bif(ag ([]:List Int)+ag ([(2:Int),(3:Int),(4:Int),(7:Int),(11:Int),(12:Int),(32:Int),(37:Int),(41:Int),(42:Int),(70:Int)]:List Int))*8<=140737488355328 then(Ds (bs [57,48,57]) (bs [57,48,52]) (bs [57,48,50])).bind λuz=>zd 1 2 (a (b8 (b8 (aw 2 ((0,0,[],()),([],[],()),[],[],())) ((0:Int)).toNat (r8,(r1,r4++([(2,13,0,bs [],[],()),(2,18,0,bs [],[],()),(2,90,0,bs [],[],()),(5,22,22,bs [],r2,()),(5,39,39,bs [],r3,()),(1,43,43,bs [],[],()),(1,48,48,bs [],[],()),(3,0,26,bs [53,57,57,57],[],())]:List dm),()),([2,3,4,7,11,12,32,37,41,42,70]:List Int),r9,())) ((1:Int)).toNat (qZ,(tn,r5++([(2,26,0,bs [],[],()),(2,43,0,bs [],[],()),(5,22,22,bs [],r6,()),(5,39,39,bs [],r7,()),(1,48,48,bs [],[],())]:List dm),()),[]++([2,3,4,7,11,12,32,37,41,42,70]:List Int),uz,()),4096,())) else none) else none else none
def Dq:ae cU:=
 ztf (λa0=>some a0)
def QD{R:Type}(a:cU)(b:Int->Int->Int->ae R)(c:Int->cU->ae R):ae R:=
 bif a.2.1<1 then b 5 2 0 else bif 65535<a.2.1 then b 5 2 0 else c 0 a
def V9{R:Type}(a:Int)(b:cU)(c:Int->Int->Int->ae R)(d:Int->cU->ae R)(e:ae R):ae R:=
 bif a<2 then zd a 2 ((HT (ah b.1 a.toNat ((0,0,[],()),([],[],()),[],[],()))).bind λr1=>bif !decide (r1.1=0) then c r1.1 a 1 else zd a 2 (zd a 2 (zd (zW zI (1-a)) 2 ((HR (ah b.1 a.toNat ((0,0,[],()),([],[],()),[],[],())).2.1 (ah b.1 a.toNat ((0,0,[],()),([],[],()),[],[],())).1 (ah b.1 (zW zI (1-a)).toNat ((0,0,[],()),([],[],()),[],[],())).1).bind λr2=>bif !decide (r2.1=0) then c r2.1 a 2 else d (zW zI (a+1)) b)))) else e
def akp{R:Type}(a b c:Int)(d:Int->Int->Int->ae R):ae R:=
 d a b c
def akq{R:Type}(a:Int->Int->Int->ae R):ae R:=
 a 0 0 0
def Tb:Nat->Int->cU->ae (Sum sC Unit)
 |0,_,_=>none
 |k+1,v0,v1=>V9 v0 v1 (λa0 a1 a2=>some (.inl (a0,a1,a2))) (λa0 a1=>Tb k a0 a1) (some (.inr ()))
def HV(a:cU):ae sC:=
 QD a (λa0 a1 a2=>some (a0,a1,a2)) (λa0 a1=>(Tb bG a0 a1).bind λe=>aI (λ(we:sC)=>akp we.1 we.2.1 we.2.2 (λa0 a1 a2=>some (a0,a1,a2))) (λ(we:Unit)=>akq (λa0 a1 a2=>some (a0,a1,a2))) e)
def QE{R:Type}(a:cU)(b:Bool->ae R):ae R:=
 (HV a).bind λr1=>b (decide (r1.1=0))
def Dr(a:cU):ae Bool:=
 QE a (λa0=>some a0)
def Wn{R:Type}(a:Int)(b:af)(c:Int->af->(List af)->(List Int)->Int->ae R):ae R:=
 c a b [] [] 0
def Wo{R:Type}(a:Int)(b:af)(c:(List af))(d:(List Int))(e:Int)(f:af->(List af)->Int->(List Int)->Int->(List af)->(List Int)->Int->ae R)(g:Int->af->(List af)->(List Int)->Int->ae R)(h:af->(List af)->(List Int)->Int->ae R):ae R:=
 bif 2<=zW zI ((b.size:Int)-e) then zd e b.size (zd (zW zI (e+1)) b.size (bif zW zI (zW zI (zW zI (ze b e.toNat)*256)+zW zI (ze b (zW zI (e+(1:Int))).toNat))=0 then f b c 0 d (zW zI (e+2)) c d e else bif a<zW zI (zW zI (zW zI (ze b e.toNat)*256)+zW zI (ze b (zW zI (e+(1:Int))).toNat)) then f b c 0 d (zW zI (e+2)) c d e else bif zW zI (zW zI ((b.size:Int)-e)-2)<zW zI (zW zI (zW zI (ze b e.toNat)*256)+zW zI (ze b (zW zI (e+(1:Int))).toNat)) then f b c (zW zI ((b.size:Int)-e)) d (-1:Int) c d e else bif 0<=zW zI (zW zI (e+2)+zW zI (zW zI (zW zI (ze b e.toNat)*256)+zW zI (ze b (zW zI (e+(1:Int))).toNat))) then bif zW zI (zW zI (e+2)+zW zI (zW zI (zW zI (ze b e.toNat)*256)+zW zI (ze b (zW zI (e+(1:Int))).toNat)))<=(b.size:Int) then bif 0<=zW zI (e+2) then bif zW zI (e+2)<=(((zW zI (zW zI (e+2)+zW zI (zW zI (zW zI (ze b e.toNat)*256)+zW zI (ze b (zW zI (e+(1:Int))).toNat)))).toNat:Nat):Int) then bif(ag c+ag ([(b.extract (zW zI (e+(2:Int))).toNat (zW zI (zW zI (e+(2:Int))+zW zI (zW zI (zW zI (ze b e.toNat)*(256:Int))+zW zI (ze b (zW zI (e+(1:Int))).toNat)))).toNat)]:List af))*16<=140737488355328 then bif(ag d+ag ([(zW zI (zW zI (e+(2:Int))+zW zI (zW zI (zW zI (ze b e.toNat)*(256:Int))+zW zI (ze b (zW zI (e+(1:Int))).toNat))))]:List Int))*8<=140737488355328 then g a b (c++([(b.extract (zW zI (e+(2:Int))).toNat (zW zI (zW zI (e+2)+zW zI (zW zI (zW zI (ze b e.toNat)*256)+zW zI (ze b (zW zI (e+(1:Int))).toNat)))).toNat)]:List af)) (d++([(zW zI (zW zI (e+2)+zW zI (zW zI (zW zI (ze b e.toNat)*256)+zW zI (ze b (zW zI (e+(1:Int))).toNat))))]:List Int)) (zW zI (zW zI (e+2)+zW zI (zW zI (zW zI (ze b e.toNat)*256)+zW zI (ze b (zW zI (e+(1:Int))).toNat)))) else none else none else none else none else none else none)) else h b c d e
def ztq{R:Type}(a:af)(b:(List af))(c:Int)(d:(List Int))(e:Int)(f:(List af))(g:(List Int))(h:Int)(i:(List af)->Int->(List Int)->Int->ae R):ae R:=
 i b c d e
def ztr{R:Type}(a:af)(b:(List af))(c:(List Int))(d:Int)(e:(List af)->Int->(List Int)->Int->ae R):ae R:=
 e b (zW zI ((a.size:Int)-d)) c (-1:Int)
def Ll:Nat->Int->af->(List af)->(List Int)->Int->ae (Sum (af×(List af)×Int×(List Int)×Int×(List af)×(List Int)×Int) (af×(List af)×(List Int)×Int))
 |0,_,_,_,_,_=>none
 |k+1,v0,v1,v2,v3,v4=>Wo v0 v1 v2 v3 v4 (λa0 a1 a2 a3 a4 a5 a6 a7=>some (.inl (a0,a1,a2,a3,a4,a5,a6,a7))) (λa0 a1 a2 a3 a4=>Ll k a0 a1 a2 a3 a4) (λa0 a1 a2 a3=>some (.inr (a0,a1,a2,a3)))
def Bi(a:Int)(b:af):ae ((List af)×Int×(List Int)×Int):=
 Wn a b (λa0 a1 a2 a3 a4=>(Ll bG a0 a1 a2 a3 a4).bind λe=>aI (λ(we:(af×(List af)×Int×(List Int)×Int×(List af)×(List Int)×Int))=>ztq we.1 we.2.1 we.2.2.1 we.2.2.2.1 we.2.2.2.2.1 we.2.2.2.2.2.1 we.2.2.2.2.2.2.1 we.2.2.2.2.2.2.2 (λa0 a1 a2 a3=>some (a0,a1,a2,a3))) (λ(we:(af×(List af)×(List Int)×Int))=>ztr we.1 we.2.1 we.2.2.1 we.2.2.2 (λa0 a1 a2 a3=>some (a0,a1,a2,a3))) e)
def Wl{R:Type}(a:af)(b:af->ae R):ae R:=
 bif(a.size:Int)=0 then b (bs []) else bif 65535<(a.size:Int) then b (bs []) else bif(strOf ([(zW zU (zW zI (dc (a.size:Int) 256))),(zW zU (cB (a.size:Int) 256))]:List Int)).size+a.size<=9223372036854775807 then b (strOf ([(zW zU (zW zI (dc (a.size:Int) 256))),(zW zU (cB (a.size:Int) 256))]:List Int)++a) else none
def xg(a:af):ae af:=
 Wl a (λa0=>some a0)
def zto{R:Type}(a:(List af))(b:Int)(c:(List af)->Int->Int->Int->ae R):ae R:=
 c a b ((ag a):Int) 0
def Tc{R:Type}(a:(List af))(b c d:Int)(e:Int->Bool->Int->ae R)(f:(List af)->Int->Int->Int->ae R)(g:Int->Int->ae R):ae R:=
 bif d<((ag a):Int) then bif b<c then e b true c else zd d (ag a) (bif b<((ah a d.toNat (bs [])).size:Int) then e b true c else zd d (ag a) (f a b (zW zI (c+((ah a d.toNat (bs [])).size:Int))) (zW zI (d+1)))) else g b c
def Wg{R:Type}(a:Int)(b:Bool)(c:Int)(d:Bool->ae R):ae R:=
 d b
def Wh{R:Type}(a b:Int)(c:Bool->ae R):ae R:=
 c (decide (a<b))
def J6:Nat->(List af)->Int->Int->Int->ae (Sum Zt7 (Int×Int))
 |0,_,_,_,_=>none
 |k+1,v0,v1,v2,v3=>Tc v0 v1 v2 v3 (λa0 a1 a2=>some (.inl (a0,a1,a2))) (λa0 a1 a2 a3=>J6 k a0 a1 a2 a3) (λa0 a1=>some (.inr (a0,a1)))
def Du(a:(List af))(b:Int):ae Bool:=
 zto a b (λa0 a1 a2 a3=>(J6 bG a0 a1 a2 a3).bind λe=>aI (λ(we:Zt7)=>Wg we.1 we.2.1 we.2.2 (λa0=>some a0)) (λ(we:(Int×Int))=>Wh we.1 we.2 (λa0=>some a0)) e)
def Wj{R:Type}(a:(List af))(b:(List af)->af->Int->ae R):ae R:=
 b a (bs []) 0
def Td{R:Type}(a:(List af))(b:af)(c:Int)(d:(List af)->af->Int->ae R)(e:af->ae R):ae R:=
 bif c<((ag a):Int) then zd c (ag a) (bif b.size+(ah a c.toNat (bs [])).size<=9223372036854775807 then d a (b++ah a c.toNat (bs [])) (zW zI (c+1)) else none) else e b
def Wk{R:Type}(a:af)(b:af->ae R):ae R:=
 b a
def J7:Nat->(List af)->af->Int->ae af
 |0,_,_,_=>none
 |k+1,v0,v1,v2=>Td v0 v1 v2 (λa0 a1 a2=>J7 k a0 a1 a2) (λa0=>some a0)
def Bh(a:(List af)):ae af:=
 Wj a (λa0 a1 a2=>(J7 bG a0 a1 a2).bind λe=>Wk e (λa0=>some a0))
end eD

