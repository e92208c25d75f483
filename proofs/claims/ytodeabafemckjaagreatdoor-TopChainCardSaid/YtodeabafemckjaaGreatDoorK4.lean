/- No condition. -/
import Derived.Test.YtodeabafemckjaaGreatDoorK3
set_option linter.unusedVariables false
set_option linter.unusedSimpArgs false
set_option maxRecDepth 100000
open Bool renaming not_true->ai,and_eq_true->ap,not_false->aY,or_eq_false_iff->cR,and_false->eL
open ByteArray renaming size_extract->b9,size_append->cq,append_assoc->df
open Classical renaming byContradiction->dy
open Int renaming toNat_natCast->ar,le_refl->c9,tmod->cB,tmod_eq_emod_of_nonneg->dS
open List renaming length->ag,getD->ah,getD_eq_getElem?_getD->al,getElem?_eq_getElem->av,getElem?_eq_some_iff->aA,replicate->aw,length_cons->aB,mem_cons_of_mem->aE,length_append->aF,mem_cons->aD,drop_eq_nil_of_le->aK,mem_cons_self->aM,drop_eq_getElem_cons->aO,mem_of_getElem?->aL,drop_zero->aN,append_assoc->aQ,mem_append->aT,all_eq_true->aR,length_take->aU,getElem?_append_right->bc,getElem?_append_left->bj,mem_filter->bf,pairwise_cons->bk,map_cons->bd,eq_nil_of_length_eq_zero->bp,mem_map->bm,nil_append->bD,append_nil->bM,length_drop->bF,getElem_mem->b6,length_map->cf,take_of_length_le->bV,foldl_cons->cm,length_singleton->cr,mem_of_find?_eq_some->cu,map_append->cg,mem_append_left->cI,pairwise_append->cz,length_nil->cM,take_append_getElem->dj,mem_append_right->ea,take_zero->cZ,take_append_drop->eP,find?_cons->dn,filter_eq_self->dz,map_nil->eA,foldl_append->dM,filter_cons->dY,filter_append->jD,take_left'->kX,pairwise_map->jV,filter_cons_of_neg->kf,append_cancel_left->ke,drop_left'->kU,sum_cons->lY
open List.Pairwise renaming nil->eW,imp_of_mem->jN
open Nat renaming le_refl->aZ,ble->bn,min_eq_left->bN,zero_le->bS
open Option renaming bind->iE
open Sum renaming elim_inr->cj
namespace eD
open Go.IntKind renaming wrap->zW,i64->zI,u8->zU
open Go Go.Ref
theorem ai5(l:List eH)(no:Int)(t:af):(va l no t).length=l.length+1:=by
 unfold va;rcases Sy no l 0 (c9 _) with⟨h1,_⟩|h1
 ·rw[h1,zT (by omega:(-1:Int)<0),zC,aF];rfl
 ·rw[zF (by omega:¬iH no l 0<0),zD,aF,aU,aB,bF];omega
theorem VL(m:fL)(no:Int)(t:af):(nv m no t).2.1.length<=m.2.1.length+1:=by show(va (n3 m.2.1 no) no t).length<=_;rw[ai5];have:=zyd m.2.1 no;omega
theorem ajZ(m:Map)(t:af)(h:m.1.length<=maxLen):BO m t=some (zr m.1 t):=by
 unfold BO Yn;dsimp only;have:=jJ ux m.1 h (λi (x:eY) (s:Unit) K=>bif decide (x.1=t) then some (Sum.inl (x.2.1,true)) else K s) (λ_=>some (Sum.inr ()))
  (λk i s=>TI k t m.1 (m.1.length:Int) i) (λk i s=>rfl) ()
 rw[this,zc3];unfold zr;cases m.1.find? λp=>decide (p.1=t)<;>rfl
def kM(m:Map)(no:Int):ae dC:=m.2.1.find? λr=>decide (r.2.1=no)
def Gm(o:ae dC):ae (Sum (Bool×dC) dC):=some (match o with
 |some r=> .inl (true,r)
 |none=> .inr rS)
theorem Pv(no:Int):∀(l:List dC) (i:Int),fD (λi (x:dC) (s:Unit) K=>(bif(decide (x.2.1=no)) then some (Sum.inl (true,x)) else K s)) (λ_=>some (Sum.inr rS)) l i ()=Gm (l.find? λr=>decide (r.2.1=no))
 | [],i=>rfl
 |x::r,i=>by
  rw[fD,dn];cases hx:decide (x.2.1=no) with
  |true=>rfl
  |false=>rw[zD];exact Pv no r (i+1)
theorem ag9(m:Map)(no:Int)(h:m.2.1.length<=maxLen):xq m no=some (match kM m no with
 |some r=>(r,true)
 |none=>(rS,false)):=by
 unfold xq Yl kM;dsimp only;have:=jJ rS m.2.1 h (λi (x:dC) (s:Unit) K=>(bif(decide (x.2.1=no)) then some (Sum.inl (true,x)) else K s)) (λ_=>some (Sum.inr rS))
  (λk i s=>TH k no m.2.1 (m.2.1.length:Int) i rS) (λk i s=>rfl) ()
 rw[this,Pv];unfold Gm;cases m.2.1.find? λr=>decide (r.2.1=no)<;>rfl
def AD:List dC->fL->fL
 | [],out=>out
 |r::l,out=>AD l (bif decide (r.1=3) then nv out r.2.2.1 r.2.2.2.1 else out)
theorem zac:∀(l:List dC) (out:fL),(AD l out).2.1.length<=out.2.1.length+l.length
 | [],out=>aZ _
 |r::l,out=>by
  rw[AD,aB];cases decide (r.1=3) with
  |true=>rw[zC];have:=zac l (nv out r.2.2.1 r.2.2.2.1);have:=VL out r.2.2.1 r.2.2.2.1;omega
  |false=>rw[zD];have:=zac l out;omega
theorem zcz{ρ:Type}(fin:fL->ae ρ):∀(l:List dC) (i:Int) (out:fL),out.2.1.length+l.length<=1000000->
 fD (λi (x:dC) (s:fL) K=>(bif(decide (x.1=(3:Int))) then((qD s x.2.2.1 x.2.2.2.1).bind λr4=>K r4) else K s)) fin l i out=fin (AD l out)
 | [],i,out,_=>rfl
 |r::l,i,out,h=>by
  simp only[aB] at h;rw[fD,AD];cases decide (r.1=3) with
  |true=>rw[zC,zC,VN out _ _ (by omega),zc];have:=VL out r.2.2.1 r.2.2.2.1;exact zcz fin l (i+1) _ (by omega)
  |false=>rw[zD,zD];exact zcz fin l (i+1) out (by omega)
def Hz(m:Map)(b:zf):List eH->fL->Sum (gh×fL) fL
 | [],out=> .inr out
 |v::r,out=>match kM m v.1 with
  |none=> .inl ((9,v.1,()),out)
  |some q=>bif !decide ((zt q b v.2.1).2=0) then .inl (((zt q b v.2.1).2,v.1,()),out) else Hz m b r (bif !decide ((zt q b v.2.1).1.1=0) then nv out (zt q b v.2.1).1.1 (zt q b v.2.1).1.2.1 else out)
abbrev mj:fL:=(bs [],[],())
def Ps(o:Sum (gh×fL) fL):ae (Sum (fL×gh×fL) (fL×gh×fL)):=some (match o with
 | .inl (f,out)=> .inl (mj,f,out)
 | .inr out=> .inr (mj,pT,out))
theorem JS{m:Map}{no:Int}{r:dC}(h:kM m no=some r):r∈m.2.1/\r.2.1=no:=⟨cu h,by simpa using List.find?_some h⟩
theorem zah(m:Map)(b:zf)(hm:mB m)(hb:b.2.2.1.length<=maxLen):∀(l:List eH) (i:Int) (out:fL),out.2.1.length+l.length<=1000000->(∀v∈l,v.2.1.size<=1099511627776)->
 fD (λi (x:eH) (s:fL) K=>((xq m x.1).bind λr5=>(bif(!r5.2) then some (Sum.inl (mj,((9:Int),x.1,()),s)) else((xl r5.1 b x.2.1).bind λr6=>(bif(!(decide (r6.2=(0:Int)))) then some (Sum.inl (mj,(r6.2,x.1,()),s)) else(bif(!(decide (r6.1.1=(0:Int)))) then((qD s r6.1.1 r6.1.2.1).bind λr7=>K r7) else K s)))))) (λs=>some (Sum.inr (mj,pT,s))) l i out=Ps (Hz m b l out)
 | [],i,out,_,_=>rfl
 |v::r,i,out,h,ht=>by
  simp only[aB] at h;have hl:=hm.len;have hv:=ht v aM;rw[fD,ag9 m v.1 (by rw[zh];omega),zc,Hz];cases hf:kM m v.1 with
  |none=>rfl
  |some q=>
   dsimp only;obtain⟨q1,_⟩:=JS hf;have qp:=(hm.rules q q1).n9.len;rw[ai,zD,z143 q b v.2.1 (by rw[zh];omega) hb (by rw[zh];omega),zc];generalize zt q b v.2.1=y;cases decide (y.2=0) with
   |false=>rfl
   |true=>
    rw[ai,zD,zD];cases decide (y.1.1=0) with
    |true=>rw[ai,zD,zD];exact zah m b hm hb r (i+1) out (by omega) (λw hw=>ht w (aE _ hw))
    |false=>rw[aY,zC,zC,VN out _ _ (by omega),zc];have:=VL out y.1.1 y.1.2.1;exact zah m b hm hb r (i+1) _ (by omega) (λw hw=>ht w (aE _ hw))
def vi(m:Map)(a b:zf)(x:fL):fL×gh:=
 bif !decide ((mi m a b).1=0) then(mj,(1,-1,())) else bif !decide ((pP a x).1=0) then(mj,pP a x) else bif !(zr m.1 x.1).2 then(mj,(7,0,()))
 else match Hz m b x.2.1 (AD m.2.1 ((zr m.1 x.1).1,[],())) with
  | .inl (f,_)=>(mj,f)
  | .inr out=>(out,pT)
theorem abV(m:Map)(a b:zf)(x:fL)(hm:mB m)(hm2:m.2.1.length<=900000)(hx:nf x)(yN:x.2.1.length<=90000)(ha:a.2.2.1.length<=maxLen)(hb:b.2.2.1.length<=maxLen):zN m a b x=some (vi m a b x):=by
 have hl:=hm.xI.len;unfold zN Yi vi;rw[z7v m a b hm ha hb,zc];cases decide ((mi m a b).1=0) with
 |false=>rfl
 |true=>
  rw[ai,zD,zD,zms a x ha hx,zc];cases decide ((pP a x).1=0) with
  |false=>rfl
  |true=>
   rw[ai,zD,zD,ajZ m x.1 (by rw[zh];omega),zc];cases(zr m.1 x.1).2 with
   |false=>rfl
   |true=>
    rw[ai,zD,zD];dsimp only;have h1:=jJ rS m.2.1 (by rw[zh];omega) (λi (x:dC) (s:fL) K=>(bif(decide (x.1=(3:Int))) then((qD s x.2.2.1 x.2.2.2.1).bind λr4=>K r4) else K s)) (λs=>some (m,b,x,mj,pT,s))
     (λk i s=>TF k m.2.1 (m.2.1.length:Int) i m b x mj pT s) (λk i s=>rfl) ((zr m.1 x.1).1,[],())
    rw[h1,zcz _ _ _ _ (by simp;omega),zc];unfold Yj;dsimp only;have hc:=zac m.2.1 ((zr m.1 x.1).1,[],());have hc:(AD m.2.1 ((zr m.1 x.1).1,[],())).2.1.length<=m.2.1.length:=by simpa using hc
    have h2:=jJ wK x.2.1 (by rw[zh];omega) (λi (x:eH) (s:fL) K=>((xq m x.1).bind λr5=>(bif(!r5.2) then some (Sum.inl (mj,((9:Int),x.1,()),s)) else((xl r5.1 b x.2.1).bind λr6=>(bif(!(decide (r6.2=(0:Int)))) then some (Sum.inl (mj,(r6.2,x.1,()),s)) else(bif(!(decide (r6.1.1=(0:Int)))) then((qD s r6.1.1 r6.1.2.1).bind λr7=>K r7) else K s)))))) (λs=>some (Sum.inr (mj,pT,s)))
     (λk i s=>TG k x.2.1 (x.2.1.length:Int) i m b mj pT s) (λk i s=>rfl) (AD m.2.1 ((zr m.1 x.1).1,[],()))
    rw[h2,zah m b hm hb _ _ _ (by omega) hx.yS];unfold Ps;cases Hz m b x.2.1 (AD m.2.1 ((zr m.1 x.1).1,[],())) with
    |inl p=>obtain⟨f,o⟩:=p;rfl
    |inr o=>rfl
abbrev sB(l:List eH):Prop:=l.Pairwise λx y=>x.1<y.1
def u7(no:Int)(t:af):List eH->List eH
 | []=>[(no,t,())]
 |x::r=>if no<x.1 then(no,t,())::x::r else x::u7 no t r
theorem zmn(no:Int):∀(l:List eH) (i d:Int),0<=i->0<=d->iH no l (i+d)=if iH no l i<0 then-1 else iH no l i+d
 | [],i,d,_,_=>by unfold iH;rw[if_pos (by omega)]
 |x::r,i,d,hi,hd=>by
  unfold iH;by_cases hx:no<x.1
  ·rw[if_pos hx,if_pos hx,if_neg (by omega)]
  ·rw[if_neg hx,if_neg hx,show i+d+1=(i+1)+d by omega];exact zmn no r (i+1) d (by omega) hd
theorem zx9(no:Int)(t:af):∀l:List eH,va l no t=u7 no t l
 | []=>rfl
 |x::r=>by
  have ih:=zx9 no t r;unfold va at ih⊢;unfold u7;by_cases hx:no<x.1
  ·have:iH no (x::r) 0=0:=by unfold iH;rw[if_pos hx]
   rw[this,if_pos hx];rfl
  ·rw[if_neg hx,<-ih];have h0:iH no (x::r) 0=iH no r (0+1):=by show(if no<x.1 then(0:Int) else iH no r (0+1))=_;rw[if_neg hx]
   rw[h0,zmn no r 0 1 (by omega) (by omega)];rcases Sy no r 0 (c9 _) with⟨h1,_⟩|h1
   ·rw[h1,if_pos (by omega)];rfl
   ·rw[if_neg (by omega),zF (by omega:¬iH no r 0+1<0),zF (by omega:¬iH no r 0<0),zD,zD];have:(iH no r 0+1).toNat=(iH no r 0).toNat+1:=by omega
    rw[this];rfl
theorem zo9(no:Int)(t:af)(v:eH):∀l:List eH,v∈u7 no t l↔v=(no,t,())\/v∈l
 | []=>by simp [u7]
 |x::r=>by
  unfold u7;split
  ·simp
  ·rw[aD,zo9 no t v r,aD];constructor
   ·rintro(h|h|h)
    ·exact .inr (.inl h)
    ·exact .inl h
    ·exact .inr (.inr h)
   ·rintro(h|h|h)
    ·exact .inr (.inl h)
    ·exact .inl h
    ·exact .inr (.inr h)
theorem PE(no:Int)(t:af):∀{l:List eH},sB l->(∀x∈l,x.1≠no)->sB (u7 no t l)
 | [],_,_=>by simp [u7,sB]
 |x::r,h,hn=>by
  have hx:=hn x aM;rw[sB,bk] at h;unfold u7;split
  ·rename_i bR;refine bk.2 ⟨λy hy=> ?_,bk.2 h⟩;rcases aD.1 hy with rfl|hy
   ·exact bR
   ·have:=h.1 y hy;show no<y.1;omega
  ·rename_i bR;refine bk.2 ⟨λy hy=> ?_,PE no t h.2 (λz hz=>hn z (aE _ hz))⟩;rcases(zo9 no t y r).1 hy with rfl|hy
   ·show x.1<no;omega
   ·exact h.1 y hy
theorem zye{l:List eH}{no:Int}{v:eH}:v∈n3 l no↔v∈l/\v.1≠no:=by unfold n3;rw[bf];simp
theorem VM(m:fL)(no:Int)(t:af)(v:eH):v∈(nv m no t).2.1↔v=(no,t,())\/(v∈m.2.1/\v.1≠no):=by show v∈va (n3 m.2.1 no) no t↔_;rw[zx9,zo9,zye]
theorem zhv{m:fL}(h:sB m.2.1)(no:Int)(t:af):sB (nv m no t).2.1:=by show sB (va (n3 m.2.1 no) no t);rw[zx9];exact PE no t (h.filter _) (λx hx=>(zye.1 hx).2)
theorem zxi:∀{l r:List eH},sB l->sB r->(∀v,v∈l↔v∈r)->l=r
 | [],[],_,_,_=>rfl
 | [],y::r,_,_,h=>by have:=(h y).2 aM;cases this
 |x::l,[],_,_,h=>by have:=(h x).1 aM;cases this
 |x::l,y::r,hl,hr,h=>by
  have sZ:=bk.1 hl;have hr':=bk.1 hr;have e:x=y:=by
   rcases aD.1 ((h x).1 aM) with e|e
   ·exact e
   ·rcases aD.1 ((h y).2 aM) with e2|e2
    ·exact e2.symm
    ·have a1:=hr'.1 x e;have a2:=sZ.1 y e2;omega
  subst e;congr 1;refine zxi sZ.2 hr'.2 λv=>⟨λhv=> ?_,λhv=> ?_⟩
  ·rcases aD.1 ((h v).1 (aE _ hv)) with e|e
   ·subst e;have:=sZ.1 _ hv;omega
   ·exact e
  ·rcases aD.1 ((h v).2 (aE _ hv)) with e|e
   ·subst e;have:=hr'.1 _ hv;omega
   ·exact e
def A9:List eH->fL->fL
 | [],out=>out
 |v::l,out=>A9 l (nv out v.1 v.2.1)
def sJ(l:List eH):Prop:=l.Pairwise λx y=>x.1≠y.1
theorem zmv:∀(l:List eH) (out:fL),(A9 l out).1=out.1
 | [],out=>rfl
 |v::l,out=>zmv l _
theorem zsf:∀(l:List eH) {out:fL},sB out.2.1->sB (A9 l out).2.1
 | [],out,h=>h
 |v::l,out,h=>zsf l (zhv h v.1 v.2.1)
theorem zse:∀(l:List eH) (out:fL),sJ l->(∀v∈l,∀w∈out.2.1,v.1≠w.1)->∀v,v∈(A9 l out).2.1↔v∈out.2.1\/v∈l
 | [],out,_,_,v=>by simp [A9]
 |x::l,out,ha,hd,v=>by
  have Gr:=bk.1 ha;have hx:(x.1,x.2.1,())=x:=rfl;rw[A9,zse l _ Gr.2 (λy hy w hw=> ?_) v,VM,hx,aD]
  ·constructor
   ·rintro((h|h)|h)
    ·exact .inr (.inl h)
    ·exact .inl h.1
    ·exact .inr (.inr h)
   ·rintro(h|h|h)
    ·exact .inl (.inr ⟨h,λe=>hd x aM v h e.symm⟩)
    ·exact .inl (.inl h)
    ·exact .inr h
  ·rcases(VM out x.1 x.2.1 w).1 hw with e|e
   ·rw[e];exact λh=>Gr.1 y hy h.symm
   ·exact hd y (aE _ hy) w e.1
theorem zdi:∀(l r:List eH) (out:fL),A9 (l++r) out=A9 r (A9 l out)
 | [],r,out=>rfl
 |v::l,r,out=>zdi l r _
def qa(l:List dC):List eH:=(l.filter λr=>decide (r.1=3)).map λr=>(r.2.2.1,r.2.2.2.1,())
theorem zad:∀(l:List dC) (out:fL),AD l out=A9 (qa l) out
 | [],out=>rfl
 |r::l,out=>by
  rw[AD];unfold qa;rw[dY];cases decide (r.1=3) with
  |true=>exact zad l _
  |false=>exact zad l _
def rF(m:Map)(b:zf):List eH->Sum gh (List eH)
 | []=> .inr []
 |v::r=>match kM m v.1 with
  |none=> .inl (9,v.1,())
  |some q=>bif !decide ((zt q b v.2.1).2=0) then .inl ((zt q b v.2.1).2,v.1,()) else match rF m b r with
   | .inl f=> .inl f
   | .inr ys=> .inr ((zt q b v.2.1).1::ys)
def jy(l:List eH):List eH:=l.filter λv=> !decide (v.1=0)
theorem zag(m:Map)(b:zf):∀(l:List eH) (out:fL),(∃f o,Hz m b l out= .inl (f,o)/\rF m b l= .inl f)\/(∃ys,Hz m b l out= .inr (A9 (jy ys) out)/\rF m b l= .inr ys)
 | [],out=> .inr ⟨[],rfl,rfl⟩
 |v::r,out=>by
  rw[Hz,rF];cases kM m v.1 with
  |none=>exact .inl ⟨_,_,rfl,rfl⟩
  |some q=>
   dsimp only;generalize zt q b v.2.1=y;cases decide (y.2=0) with
   |false=>exact .inl ⟨_,_,rfl,rfl⟩
   |true=>
    rw[ai,zD,zD];cases hz:decide (y.1.1=0) with
    |true=>
     rw[ai,zD];rcases zag m b r out with⟨f,o,h1,h2⟩|⟨ys,h1,h2⟩
     ·exact .inl ⟨f,o,h1,by rw[h2]⟩
     ·refine .inr ⟨y.1::ys,?_,by rw[h2]⟩;rw[h1];have:jy (y.1::ys)=jy ys:=by unfold jy;rw[dY,hz];rfl
      rw[this]
    |false=>
     rw[aY,zC];rcases zag m b r (nv out y.1.1 y.1.2.1) with⟨f,o,h1,h2⟩|⟨ys,h1,h2⟩
     ·exact .inl ⟨f,o,h1,by rw[h2]⟩
     ·refine .inr ⟨y.1::ys,?_,by rw[h2]⟩;rw[h1];have:jy (y.1::ys)=y.1::jy ys:=by unfold jy;rw[dY,hz];rfl
      rw[this];rfl
theorem JM{m:Map}{b:zf}:∀{l ys:List eH},rF m b l= .inr ys->∀y∈ys,∃v∈l,∃q,kM m v.1=some q/\(zt q b v.2.1).2=0/\y=(zt q b v.2.1).1
 | [],ys,h,y,hy=>by cases h;cases hy
 |v::r,ys,h,y,hy=>by
  rw[rF] at h;cases hf:kM m v.1 with
  |none=>rw[hf] at h;cases h
  |some q=>
   rw[hf] at h;dsimp only at h;cases hz:decide ((zt q b v.2.1).2=0) with
   |false=>rw[hz] at h;cases h
   |true=>
    rw[hz,ai,zD] at h;cases hr:rF m b r with
    |inl f=>rw[hr] at h;cases h
    |inr zs=>
     rw[hr] at h;cases h;rcases aD.1 hy with rfl|hy
     ·exact⟨v,aM,q,hf,of_decide_eq_true hz,rfl⟩
     ·obtain⟨w,hw,q',g⟩:=JM hr y hy;exact⟨w,aE _ hw,q',g⟩
theorem adT(x y:dC):q9 x y=q9 y x:=by
 unfold q9;have e1:(!decide (x.2.1=0)&&decide (x.2.1=y.2.1))=(!decide (y.2.1=0)&&decide (y.2.1=x.2.1)):=by
  by_cases h:x.2.1=y.2.1
  ·rw[h]
  ·rw[zF h,zF (show¬y.2.1=x.2.1 from λe=>h e.symm),eL,eL]
 have e2:(!decide (x.2.2.1=0)&&decide (x.2.2.1=y.2.2.1))=(!decide (y.2.2.1=0)&&decide (y.2.2.1=x.2.2.1)):=by
  by_cases h:x.2.2.1=y.2.2.1
  ·rw[h]
  ·rw[zF h,zF (show¬y.2.2.1=x.2.2.1 from λe=>h e.symm),eL,eL]
 rw[e1,e2]
theorem zh7:∀{l prev:List dC},Ht prev l->l.Pairwise (λx y=>q9 x y=false)/\∀p∈prev,∀x∈l,q9 p x=false
 | [],prev,h=>⟨eW,λ_ _ x hx=>by cases hx⟩
 |r::l,prev,h=>by
  obtain⟨h1,h2⟩:=h;obtain⟨i1,i2⟩:=zh7 h2;have hp:∀p∈prev,q9 p r=false:=λp hp=>by have:=List.any_eq_false.1 h1 p hp;simpa using this
  refine⟨bk.2 ⟨λy hy=>i2 r (by simp) y hy,i1⟩,λp hp' x hx=> ?_⟩;rcases aD.1 hx with rfl|hx
  ·exact hp p hp'
  ·exact i2 p (by simp [hp']) x hx
theorem zhq{x y:dC}(h:q9 x y=false)(hx:x.2.2.1≠0):x.2.2.1≠y.2.2.1:=by intro e;unfold q9 at h;rw[cR] at h;have:=h.2;rw[zF hx,zT e] at this;cases this
theorem zod{l:List dC}(h:l.Pairwise λx y=>q9 x y=false):∀x∈l,∀y∈l,x≠y->q9 x y=false:=by
 induction l with
 |nil=>intro x hx;cases hx
 |cons r l ih=>
  obtain⟨h1,h2⟩:=bk.1 h;intro x hx y hy fS;rcases aD.1 hx with e1|hx1
  ·rcases aD.1 hy with e2|hy1
   ·exact absurd (e1.trans e2.symm) fS
   ·rw[e1];exact h1 y hy1
  ·rcases aD.1 hy with e2|hy1
   ·rw[adT,e2];exact h1 x hx1
   ·exact ih h2 x hx1 y hy1 fS
theorem Ff{s:zf}:∀{l:List eH} {last:Int},A4 s l last=none↔(∀v∈l,eK s v.1=true/\eS (cV s v.1) v.2.1=0)/\sB l/\∀v∈l,last<v.1
 | [],last=>by simp [A4,sB]
 |x::r,last=>by
  rw[A4];by_cases h1:x.1<=last
  ·rw[zT h1,zC];refine⟨λh=>(by cases h),λh=> ?_⟩;have:=h.2.2 x aM;omega
  rw[zF h1,zD];cases h2:eK s x.1 with
  |false=>refine⟨λh=>(by cases h),λh=> ?_⟩;have:=(h.1 x aM).1;rw[h2] at this;cases this
  |true=>
   rw[ai,zD];by_cases h3:eS (cV s x.1) x.2.1=0
   ·rw[zT h3,ai,zD,Ff];constructor
    ·rintro⟨g1,g2,g3⟩;refine⟨λv hv=> ?_,bk.2 ⟨g3,g2⟩,λv hv=> ?_⟩
     ·rcases aD.1 hv with rfl|hv
      ·exact⟨h2,h3⟩
      ·exact g1 v hv
     ·rcases aD.1 hv with rfl|hv
      ·omega
      ·have:=g3 v hv;omega
    ·rintro⟨g1,g2,g3⟩;have g2:=bk.1 g2;exact⟨λv hv=>g1 v (aE _ hv),g2.2,g2.1⟩
   ·rw[zF h3,aY,zC];refine⟨λh=>(by cases h),λh=> ?_⟩;exact absurd (h.1 x aM).2 h3
theorem zgt{s:zf}:∀{l:List eH} {last:Int} {f:gh},A4 s l last=some f->f.1≠0
 | [],last,f,h=>by cases h
 |x::r,last,f,h=>by
  rw[A4] at h;cases h1:decide (x.1<=last) with
  |true=>rw[h1] at h;cases h;exact(by decide:(11:Int)≠0)
  |false=>
   rw[h1,zD] at h;cases h2:eK s x.1 with
   |false=>rw[h2] at h;cases h;exact(by decide:(9:Int)≠0)
   |true=>
    rw[h2,ai,zD] at h;by_cases h3:eS (cV s x.1) x.2.1=0
    ·rw[zT h3,ai,zD] at h;exact zgt h
    ·rw[zF h3,aY,zC] at h;cases h;exact h3
structure pK(s:zf)(m:fL):Prop where
 qv:(qx s).1=0
 right:oR m.1=true
 U8:pG m.1=s.2.1
 qk:A4 s m.2.1 0=none
theorem S0{s:zf}{m:fL}:(pP s m).1=0↔pK s m:=by
 unfold pP;by_cases h1:(qx s).1=0
 ·rw[zT h1,ai,zD];cases h2:oR m.1 with
  |false=>exact⟨λh=>absurd h (show¬(7:Int)=0 by decide),λh=>by have:=h.right;rw[h2] at this;cases this⟩
  |true=>
   rw[ai,zD];by_cases h3:pG m.1=s.2.1
   ·rw[zT h3,ai,zD];cases h4:A4 s m.2.1 0 with
    |none=>exact⟨λ_=>⟨h1,h2,h3,h4⟩,λ_=>rfl⟩
    |some f=>exact⟨λh=>absurd h (zgt h4),λh=>by have:=h.qk;rw[h4] at this;cases this⟩
   ·rw[zF h3];exact⟨λh=>absurd h (show¬(7:Int)=0 by decide),λh=>absurd h.U8 h3⟩
 ·rw[zF h1];exact⟨λh=>absurd h (show¬(1:Int)=0 by decide),λh=>absurd h.qv h1⟩
theorem pK.eq{s:zf}{m:fL}(h:pK s m):pP s m=pT:=by unfold pP;rw[zT h.qv,h.right,zT h.U8,h.qk];rfl
theorem JP{s:zf}(h:pL s){no:Int}(hh:eK s no=true):2<=no/\no<=128:=by have:=(Vl (SQ h hh)).1;rw[(VV hh).2] at this;exact this
theorem SM{q:dC}{b:zf}{t:af}(h:(zt q b t).2=0)(hz:(zt q b t).1.1≠0):q.1≠2/\(zt q b t).1.1=q.2.2.1:=by
 unfold zt at h hz⊢;by_cases k1:q.1=1
 ·rw[zT k1,zC];exact⟨by omega,rfl⟩
 rw[zF k1,zD] at h hz⊢;by_cases k2:q.1=2
 ·rw[zT k2,zC] at hz;exact absurd rfl hz
 rw[zF k2,zD] at h hz⊢;refine⟨k2,?_⟩;by_cases k3:q.1=3
 ·rw[zT k3,zC]
 rw[zF k3,zD] at h hz⊢;by_cases k4:q.1=4
 ·rw[zT k4,zC] at h hz⊢;cases hs:eK b q.2.2.1 with
  |false=>rw[hs] at h;cases h
  |true=>
   rw[hs] at h;rw[ai,zD] at h⊢;cases hp:(lN t (cV b q.2.2.1).2.2.2.1).2 with
   |false=>rw[hp] at h;cases h
   |true=>rfl
 rw[zF k4,zD] at h hz⊢;by_cases k5:q.1=5
 ·rw[zT k5,zC] at h hz⊢;cases hp:(zr q.2.2.2.2.1 t).2 with
  |false=>rw[hp] at h;cases h
  |true=>rfl
 ·rw[zF k5,zD] at hz;exact absurd rfl hz
theorem Lg{l:List eH}{v:eH}:v∈jy l↔v∈l/\v.1≠0:=by unfold jy;rw[bf];simp
section
variable {m:Map} {a b:zf}
theorem mU.n9(h:mU m a b):m.2.1.Pairwise λx y=>q9 x y=false:=(zh7 h.yR).1
theorem mU.okA(h:mU m a b):pL a:=(C8 a).1 h.sa
theorem mU.okB(h:mU m a b):pL b:=(C8 b).1 h.sb
theorem mU.to(h:mU m a b){r:dC}(hr:r∈m.2.1)(k:r.1≠2):eK b r.2.2.1=true:=(zgq (Vs (h.rules r hr)).2.1).2.2.2 k
theorem mU.OO(h:mU m a b){r:dC}(hr:r∈m.2.1)(k:r.1≠2):r.2.2.1≠0:=by have:=JP h.okB (h.to hr k);omega
theorem Qc(h:mU m a b):∀{l ys:List eH},sB l->rF m b l= .inr ys->sJ (jy ys)
 | [],ys,_,hy=>by cases hy;exact eW
 |v::r,ys,hr,hy=>by
  rw[rF] at hy;have hr:=bk.1 hr;cases hf:kM m v.1 with
  |none=>rw[hf] at hy;cases hy
  |some q=>
   rw[hf] at hy;dsimp only at hy;cases hz:decide ((zt q b v.2.1).2=0) with
   |false=>rw[hz] at hy;cases hy
   |true=>
    rw[hz,ai,zD] at hy;cases hv:rF m b r with
    |inl f=>rw[hv] at hy;cases hy
    |inr zs=>
     rw[hv] at hy;cases hy;have ih:=Qc h hr.2 hv;unfold jy at ih⊢;rw[dY];split
     ·rename_i hnz;have hnz:(zt q b v.2.1).1.1≠0:=by simpa using hnz
      refine bk.2 ⟨λz hzm=> ?_,ih⟩;obtain⟨z1,z2⟩:=Lg.1 hzm;obtain⟨w,hw,q',hf',h0',rfl⟩:=JM hv z z1;obtain⟨a1,a2⟩:=SM (of_decide_eq_true hz) hnz;obtain⟨b1,b2⟩:=SM h0' z2;rw[a2,b2];obtain⟨qm,qf⟩:=JS hf;obtain⟨qm',qf'⟩:=JS hf';have bR:=hr.1 w hw;have fS:q≠q':=λe=>by subst e;omega
      exact zhq (zod h.n9 q qm q' qm' fS) (h.OO qm a1)
     ·exact ih
theorem Lb{l:List dC}{v:eH}:v∈qa l↔∃r∈l,r.1=3/\v=(r.2.2.1,r.2.2.2.1,()):=by
 unfold qa;rw[bm];constructor
 ·rintro⟨r,hr,rfl⟩;rw[bf] at hr;exact⟨r,hr.1,of_decide_eq_true hr.2,rfl⟩
 ·rintro⟨r,hr,k,rfl⟩;exact⟨r,bf.2 ⟨hr,zT k⟩,rfl⟩
theorem ab0(h:mU m a b):sJ (qa m.2.1):=by unfold qa;refine jV.2 ?_;refine jN ?_ (h.n9.filter _);intro x y hx hy G0;have hx:=bf.1 hx;have k:x.1=3:=of_decide_eq_true hx.2;exact zhq G0 (h.OO hx.1 (by omega))
theorem acr(h:mU m a b){l ys:List eH}(hl:∀v∈l,eK a v.1=true)(hy:rF m b l= .inr ys):∀c∈qa m.2.1,∀y∈jy ys,c.1≠y.1:=by
 intro c hc y hym;obtain⟨r,hr,k,rfl⟩:=Lb.1 hc;obtain⟨y1,y2⟩:=Lg.1 hym;obtain⟨w,hw,q,hf,h0,rfl⟩:=JM hy y y1;obtain⟨b1,b2⟩:=SM h0 y2;rw[b2];obtain⟨qm,qf⟩:=JS hf;have hwr:=JP h.okA (hl w hw);have hz:=(zgq (Vs (h.rules r hr)).2.1).1 k;have fS:r≠q:=λe=>by subst e;omega
 exact zhq (zod h.n9 r hr q qm fS) (h.OO hr (by omega))
theorem zxs(h:mU m a b){l ys:List eH}(hr:sB l)(hl:∀v∈l,eK a v.1=true)(hy:rF m b l= .inr ys):sJ (qa m.2.1++jy ys):=
 cz.2 ⟨ab0 h,Qc h hr hy,acr h hl hy⟩
theorem zxt(h:mU m a b){l ys:List eH}(hy:rF m b l= .inr ys):∀v∈qa m.2.1++jy ys,eK b v.1=true:=by
 intro v hv;rcases aT.1 hv with hv|hv
 ·obtain⟨r,hr,k,rfl⟩:=Lb.1 hv;exact h.to hr (by omega)
 ·obtain⟨y1,y2⟩:=Lg.1 hv;obtain⟨w,hw,q,hf,h0,rfl⟩:=JM hy v y1;obtain⟨b1,b2⟩:=SM h0 y2;rw[b2];exact h.to (JS hf).1 b1
end
def tT(vs:List eH):Nat->Nat->List eH
 |0,_=>[]
 |n+1,k=>(vs.filter λv=>decide (v.1=(k:Int)))++tT vs n (k+1)
theorem Vo{vs:List eH}{v:eH}:∀{n k:Nat},v∈tT vs n k↔v∈vs/\(k:Int)<=v.1/\v.1<((k+n:Nat):Int)
 |0,k=>by simp only[tT,List.not_mem_nil,false_iff];omega
 |n+1,k=>by
  rw[tT,aT,bf,decide_eq_true_eq,Vo];constructor
  ·rintro(⟨h1,h2⟩|⟨h1,h2,h3⟩)
   ·exact⟨h1,by omega,by omega⟩
   ·exact⟨h1,by omega,by omega⟩
  ·rintro⟨h1,h2,h3⟩;by_cases e:v.1=(k:Int)
   ·exact .inl ⟨h1,e⟩
   ·exact .inr ⟨h1,by omega,by omega⟩
theorem zcw{vs:List eH}(h:sJ (jy vs)):∀(n k:Nat),1<=k->sB (tT vs n k)
 |0,k,_=>eW
 |n+1,k,hk=>by
  rw[tT];refine cz.2 ⟨?_,zcw h n (k+1) (by omega),λx hx y hy=> ?_⟩
  ·have e:(vs.filter λv=>decide (v.1=(k:Int)))=(jy vs).filter λv=>decide (v.1=(k:Int)):=by
    unfold jy;rw[List.filter_filter];congr 1
    funext v
    by_cases hv:v.1=(k:Int)
    ·rw[zT hv,zF (by omega:¬v.1=0)];rfl
    ·rw[zF hv];rfl
   rw[e];refine jN ?_ (h.filter _);intro x y hx hy fS;have h1:=of_decide_eq_true (bf.1 hx).2;have h2:=of_decide_eq_true (bf.1 hy).2;omega
  ·have h1:=of_decide_eq_true (bf.1 hx).2;have h2:=(Vo.1 hy).2.1;omega
def zso(m:Map)(a b:zf)(x:fL):fL×gh:=
 bif !decide ((mi m a b).1=0) then(mj,(1,-1,())) else bif !decide ((pP a x).1=0) then(mj,pP a x) else bif !(zr m.1 x.1).2 then(mj,(7,0,()))
 else match rF m b x.2.1 with
  | .inl f=>(mj,f)
  | .inr ys=>(((zr m.1 x.1).1,tT (ys++qa m.2.1) 127 2,()),pT)
theorem zhm(l r:List eH):jy (l++r)=jy l++jy r:=by unfold jy;rw[jD]
theorem zhn{m:Map}{a b:zf}(h:mU m a b):jy (qa m.2.1)=qa m.2.1:=by unfold jy;refine dz.2 λv hv=> ?_;obtain⟨r,hr,k,rfl⟩:=Lb.1 hv;have:=h.OO hr (by omega);simpa using this
theorem zr7{l r:List eH}(h:sJ (l++r)):sJ (r++l):=by obtain⟨h1,h2,h3⟩:=cz.1 h;exact cz.2 ⟨h2,h1,λx hx y hy e=>h3 y hy x hx e.symm⟩
theorem afq{m:Map}{a b:zf}(h:mU m a b){l ys:List eH}(hr:sB l)(hl:∀v∈l,eK a v.1=true)(hy:rF m b l= .inr ys)(t:af):
 A9 (jy ys) (AD m.2.1 (t,[],()))=(t,tT (ys++qa m.2.1) 127 2,()):=by
 rw[zad,<-zdi];have Gs:=zxs h hr hl hy;have hs:jy (ys++qa m.2.1)=jy ys++qa m.2.1:=by rw[zhm,zhn h]
 refine alS.2 ⟨zmv _ _,?_⟩;refine zxi (zsf _ eW) (zcw (by rw[hs];exact zr7 Gs) 127 2 (by omega)) λv=> ?_;rw[zse _ _ Gs (λ_ _ w hw=>by cases hw) v,Vo];constructor
 ·rintro(hv|hv)
  ·cases hv
  ·have hb:=JP h.okB (zxt h hy v hv);refine⟨?_,by omega,by omega⟩;rcases aT.1 hv with hv|hv
   ·exact ea _ hv
   ·exact cI _ (Lg.1 hv).1
 ·rintro⟨hv,h1,h2⟩;right;rcases aT.1 hv with hv|hv
  ·exact ea _ (Lg.2 ⟨hv,by omega⟩)
  ·exact cI _ hv
theorem zsp(m:Map)(a b:zf)(x:fL):vi m a b x=zso m a b x:=by
 unfold vi zso;by_cases h1:(mi m a b).1=0
 ·rw[zT h1,ai,zD,zD];by_cases h2:(pP a x).1=0
  ·rw[zT h2,ai,zD,zD];cases(zr m.1 x.1).2 with
   |false=>rfl
   |true=>
    rw[ai,zD,zD];obtain⟨g1,g2,g3⟩:=Ff.1 (S0.1 h2).qk;rcases zag m b x.2.1 (AD m.2.1 ((zr m.1 x.1).1,[],())) with⟨f,o,e1,e2⟩|⟨ys,e1,e2⟩
    ·rw[e1,e2]
    ·rw[e1,e2];dsimp only;rw[afq (SZ.1 h1) g2 (λv hv=>(g1 v hv).1) e2]
  ·rw[zF h2];rfl
 ·rw[zF h1];rfl
end eD

namespace eD
open Go.IntKind renaming wrap->zW,i64->zI,u8->zU
open Go Go.Ref
theorem acp{r:dC}{b:zf}{t:af}(ht:t.size<=1099511627776)(hr:oW r):(zt r b t).1.2.1.size<=1099511627776:=by
 have h0:(bs []).size<=1099511627776:=by decide
 unfold zt;cases decide (r.1=1) with
 |true=>exact ht
 |false=>
  rw[zD];cases decide (r.1=2) with
  |true=>exact h0
  |false=>
   rw[zD];cases decide (r.1=3) with
   |true=>exact hr.text
   |false=>
    rw[zD];cases decide (r.1=4) with
    |true=>
     rw[zC];cases eK b r.2.2.1 with
     |false=>exact h0
     |true=>
      rw[ai,zD];cases hp:(lN t (cV b r.2.2.1).2.2.2.1).2 with
      |false=>exact h0
      |true=>obtain⟨p1,p2,p3,p4⟩:=Rr hp;show(lN t (cV b r.2.2.1).2.2.2.1).1.size<=_;omega
    |false=>
     rw[zD];cases decide (r.1=5) with
     |true=>
      rw[zC];cases hp:(zr r.2.2.2.2.1 t).2 with
      |false=>exact h0
      |true=>obtain⟨p,hm,_,hq⟩:=Vn hp;show(zr r.2.2.2.2.1 t).1.size<=_;rw[hq];exact(hr.n9.sz p hm).2
     |false=>exact h0
theorem zgu{m:Map}{b:zf}:∀{l:List eH} {f:gh},rF m b l= .inl f->f.1≠0
 | [],f,h=>by cases h
 |v::r,f,h=>by
  rw[rF] at h;cases hf:kM m v.1 with
  |none=>rw[hf] at h;cases h;exact(by decide:(9:Int)≠0)
  |some q=>
   rw[hf] at h;dsimp only at h;by_cases hz:(zt q b v.2.1).2=0
   ·rw[zT hz,ai,zD] at h;cases hr:rF m b r with
    |inl g=>rw[hr] at h;cases h;exact zgu hr
    |inr ys=>rw[hr] at h;cases h
   ·rw[zF hz,aY,zC] at h;cases h;exact hz
structure hD(m:Map)(a b:zf)(x:fL)(ys:List eH):Prop where
 map:mU m a b
 msg:pK a x
 head:(zr m.1 x.1).2=true
 xS:rF m b x.2.1= .inr ys
theorem zan(m:Map)(a b:zf)(x:fL):(∃f,f.1≠0/\vi m a b x=(mj,f))\/∃ys,hD m a b x ys/\vi m a b x=(((zr m.1 x.1).1,tT (ys++qa m.2.1) 127 2,()),pT):=by
 rw[zsp];unfold zso;by_cases h1:(mi m a b).1=0
 ·rw[zT h1,ai,zD];by_cases h2:(pP a x).1=0
  ·rw[zT h2,ai,zD];cases h3:(zr m.1 x.1).2 with
   |false=>exact .inl ⟨_,by decide,rfl⟩
   |true=>
    rw[ai,zD];cases h4:rF m b x.2.1 with
    |inl f=>exact .inl ⟨f,zgu h4,rfl⟩
    |inr ys=>exact .inr ⟨ys,⟨SZ.1 h1,S0.1 h2,h3,h4⟩,rfl⟩
  ·rw[zF h2];exact .inl ⟨_,h2,rfl⟩
 ·rw[zF h1];exact .inl ⟨_,by decide,rfl⟩
theorem hD.eq{m:Map}{a b:zf}{x:fL}{ys:List eH}(h:hD m a b x ys):vi m a b x=(((zr m.1 x.1).1,tT (ys++qa m.2.1) 127 2,()),pT):=by rw[zsp];unfold zso;rw[zT (SZ.2 h.map),ai,zD,zT (S0.2 h.msg),ai,zD,h.head,h.xS];rfl
section
variable {m:Map} {a b:zf} {x:fL} {ys:List eH}
theorem hD.qk(h:hD m a b x ys):(∀v∈x.2.1,eK a v.1=true/\eS (cV a v.1) v.2.1=0)/\sB x.2.1/\∀v∈x.2.1,0<v.1:=Ff.1 h.msg.qk
theorem hD.ris(h:hD m a b x ys):sB (tT (ys++qa m.2.1) 127 2):=by obtain⟨g1,g2,g3⟩:=h.qk;refine zcw ?_ 127 2 (by omega);rw[zhm,zhn h.map];exact zr7 (zxs h.map g2 (λv hv=>(g1 v hv).1) h.xS)
theorem hD.mem(h:hD m a b x ys)(v:eH):v∈tT (ys++qa m.2.1) 127 2↔v∈qa m.2.1\/(v∈ys/\v.1≠0):=by
 rw[Vo,aT];have hr:=zxt h.map h.xS;constructor
 ·rintro⟨h1|h1,h2,h3⟩
  ·exact .inr ⟨h1,by omega⟩
  ·exact .inl h1
 ·rintro(h1|⟨h1,h2⟩)
  ·have:=JP h.map.okB (hr v (cI _ h1));exact⟨.inr h1,by omega,by omega⟩
  ·have:=JP h.map.okB (hr v (ea _ (Lg.2 ⟨h1,h2⟩)));exact⟨.inl h1,by omega,by omega⟩
theorem hD.valid(h:hD m a b x ys)(hm:mB m)(hx:nf x):∀v∈tT (ys++qa m.2.1) 127 2,eK b v.1=true/\v.2.1.size<=1099511627776/\eS (cV b v.1) v.2.1=0:=by
 intro v hv;obtain⟨g1,g2,g3⟩:=h.qk;rcases(h.mem v).1 hv with hv|⟨hv,hz⟩
 ·obtain⟨r,hr,k,rfl⟩:=Lb.1 hv;have hc:=(Vs (h.map.rules r hr)).2.2.2;unfold qR at hc;rw[zF (by omega:¬r.1=1),zT k,zD,zC] at hc;exact⟨h.map.to hr (by omega),(hm.rules r hr).text,hc⟩
 ·obtain⟨w,hw,q,hf,h0,rfl⟩:=JM h.xS v hv;obtain⟨b1,b2⟩:=SM h0 hz;obtain⟨qm,qf⟩:=JS hf;have hwt:=hx.yS w hw;have:=(z152 (r:=q) (a:=a) (b:=b) hwt (hm.rules q qm) (h.map.rules q qm) h.map.okB (λ_=>by rw[qf];exact(g1 w hw).2)).2 h0;obtain⟨e1,e2,e3⟩:=this.2 b1;rw[b2];exact⟨e2,acp hwt (hm.rules q qm),e3⟩
theorem agY{t:af}{v:Int}(h:qX t v=true):oR t=true/\pG t=v:=by unfold qX at h;rw[ap,decide_eq_true_eq] at h;refine⟨h.1,?_⟩;unfold pG;rw[h.1];exact h.2
theorem hD.CD(h:hD m a b x ys):oR (zr m.1 x.1).1=true/\pG (zr m.1 x.1).1=b.2.1:=by obtain⟨p,hp,_,e⟩:=Vn h.head;have ht:=h.map.typed p hp;unfold vj at ht;rw[ap,ap] at ht;rw[e];exact agY ht.2.1
theorem hD.out(h:hD m a b x ys)(hm:mB m)(hx:nf x):pK b ((zr m.1 x.1).1,tT (ys++qa m.2.1) 127 2,()):=by have hv:=h.valid hm hx;refine⟨h.map.sb,h.CD.1,h.CD.2,Ff.2 ⟨λv hm=>⟨(hv v hm).1,(hv v hm).2.2⟩,h.ris,λv hm=> ?_⟩⟩;have:=JP h.map.okB (hv v hm).1;omega
end
theorem zxj:∀{l:List eH} {lo:Int},sB l->(∀v∈l,lo<v.1/\v.1<=128)->(l.length:Int)<=max 0 (128-lo)
 | [],lo,_,_=>by simp;omega
 |x::r,lo,h,hr=>by have h:=bk.1 h;have hx:=hr x aM;have:=zxj (l:=r) (lo:=x.1) h.2 (λv hv=>⟨h.1 v hv,(hr v (aE _ hv)).2⟩);simp only[aB];omega
theorem hD.ok{m:Map}{a b:zf}{x:fL}{ys:List eH}(h:hD m a b x ys)(hm:mB m)(hx:nf x):nf ((zr m.1 x.1).1,tT (ys++qa m.2.1) 127 2,()):=by
 have hv:=h.valid hm hx;refine⟨?_,?_,λv rL=>(hv v rL).2.1⟩
 ·have:=(xV.1 h.CD.1).1;show(zr m.1 x.1).1.size<=_;omega
 ·have:=zxj (lo:=0) h.ris (λv rL=>by have:=JP h.map.okB (hv v rL).1;omega);show(tT (ys++qa m.2.1) 127 2).length<=_;omega
def Nu(m:Map)(b:zf)(v:eH):Prop:=∃q,kM m v.1=some q/\(zt q b v.2.1).2=0
theorem SD{m:Map}{b:zf}:∀{l:List eH},(∃ys,rF m b l= .inr ys)↔∀v∈l,Nu m b v
 | []=>⟨λ_ v hv=>(by cases hv),λ_=>⟨[],rfl⟩⟩
 |v::r=>by
  rw[rF];constructor
  ·rintro⟨ys,h⟩ w hw;cases hf:kM m v.1 with
   |none=>rw[hf] at h;cases h
   |some q=>
    rw[hf] at h;dsimp only at h;cases hz:decide ((zt q b v.2.1).2=0) with
    |false=>rw[hz] at h;cases h
    |true=>
     rw[hz,ai,zD] at h;rcases aD.1 hw with rfl|hw
     ·exact⟨q,hf,of_decide_eq_true hz⟩
     ·cases hr:rF m b r with
      |inl g=>rw[hr] at h;cases h
      |inr zs=>exact SD.1 ⟨zs,hr⟩ w hw
  ·intro h;obtain⟨q,hf,hz⟩:=h v aM;obtain⟨zs,hr⟩:=SD.2 λw hw=>h w (aE _ hw);rw[hf,hr];dsimp only;rw[zT hz];exact⟨_,rfl⟩
theorem zd3{m:Map}{b:zf}:∀{l ys:List eH},rF m b l= .inr ys->∀v∈l,∃q,kM m v.1=some q/\(zt q b v.2.1).2=0/\(zt q b v.2.1).1∈ys
 | [],ys,h,v,hv=>by cases hv
 |x::r,ys,h,v,hv=>by
  rw[rF] at h;cases hf:kM m x.1 with
  |none=>rw[hf] at h;cases h
  |some q=>
   rw[hf] at h;dsimp only at h;cases hz:decide ((zt q b x.2.1).2=0) with
   |false=>rw[hz] at h;cases h
   |true=>
    rw[hz,ai,zD] at h;cases hr:rF m b r with
    |inl f=>rw[hr] at h;cases h
    |inr zs=>
     rw[hr] at h;cases h;rcases aD.1 hv with rfl|hv
     ·exact⟨q,hf,of_decide_eq_true hz,aM⟩
     ·obtain⟨q',g1,g2,g3⟩:=zd3 hr v hv;exact⟨q',g1,g2,aE _ g3⟩
theorem hD.part{m:Map}{a b:zf}{x:fL}{ys:List eH}(h:hD m a b x ys){l:List eH}(hl:List.Sublist l x.2.1):∃zs,hD m a b (x.1,l,()) zs:=by obtain⟨g1,g2,g3⟩:=h.qk;obtain⟨zs,hz⟩:=SD.2 λv hv=>SD.1 ⟨ys,h.xS⟩ v (hl.subset hv);exact⟨zs,h.map,⟨h.msg.qv,h.msg.right,h.msg.U8,Ff.2 ⟨λv hv=>g1 v (hl.subset hv),g2.sublist hl,λv hv=>g3 v (hl.subset hv)⟩⟩,h.head,hz⟩
end eD

namespace eD
open Go.IntKind renaming wrap->zW,i64->zI,u8->zU
open Go Go.Ref
def nT(style:Int)(m:af):af:=if style=1 then m else(yY m).1
def oM(s:zf):List eH->af
 | []=>bs []
 |v::r=>(yW s.1 (cV s v.1) v.2.1).1++oM s r
def lM(m:fL):List Int:=m.2.1.map λv=>v.1
def mg(s:zf)(m:fL):af:=nT s.1 m.1++(l9 s.1 (kB (lM m)) (lf (lM m))).1++oM s m.2.1
theorem age(m:fL)(h:m.2.1.length<=1000000):Bm m=some ((kB (lM m):Int),(lf (lM m):Int),()):=by
 unfold Bm WL;dsimp only;have key:∀(l:List eH) (i:Int) (p:List Int),fD (λi (x:eH) (b:Di) K=>(FM b x.1).bind λr1=>K r1) (λb=>some (((0:Int),(0:Int),()),b)) l i ((kB p:Int),(lf p:Int),())=some (((0:Int),(0:Int),()),((kB (p++l.map λv=>v.1):Int),(lf (p++l.map λv=>v.1):Int),())):=by
  intro l
  induction l with
  |nil=>intro i p;rw[eA,bM];rfl
  |cons x r ih=>
   intro i p;rw[fD,QT _ _ (AE p) (AF p),zc];have e1:kB p|||re x.1=kB (p++ [x.1]):=by unfold kB;rw[dM];rfl
   have e2:lf p|||rf x.1=lf (p++ [x.1]):=by unfold lf;rw[dM];rfl
   rw[e1,e2];dsimp only;rw[ih (i+1) (p++ [x.1]),bd,aQ];rfl
 have:=jJ wK m.2.1 (by rw[zh];omega) (λi (x:eH) (b:Di) K=>(FM b x.1).bind λr1=>K r1) (λb=>some (((0:Int),(0:Int),()),b)) (λk i b=>Tm k m.2.1 (m.2.1.length:Int) i ((0:Int),(0:Int),()) b) (λk i b=>rfl) ((0:Int),(0:Int),());rw[this];have k2:=key m.2.1 0 [];rw[show kB []=0 from rfl,show lf []=0 from rfl] at k2;rw[show((0:Nat):Int)=0 from rfl] at k2;rw[k2];rfl
theorem agU(style:Int)(m:af):(nT style m).size<=m.size+500:=by
 unfold nT;split
 ·omega
 ·have:=zga m;omega
theorem adb(style:Int)(h l:Nat):(l9 style h l).1.size<=32:=by
 have hz:qy style<=16:=by unfold qy;split<;>omega
 unfold l9;split
 ·dsimp only;split
  ·rw[Hn];omega
  ·rw[ss,Hn,Hn];omega
 ·exact bS _
theorem abX(style:Int)(s:Spec)(t:af):(yW style s t).1.size<=2*t.size+1000:=by
 unfold yW;split
 ·exact bS _
 ·split
  ·exact bS _
  ·dsimp only;rw[ss];have:=zzk style s.2.2.1 t.size;have:=zy4 (jz style s.2.1) t;omega
structure pV(m:fL):Prop where
 CD:m.1.size<=1000
 len:m.2.1.length<=1000
 yS:∀v∈m.2.1,v.2.1.size<=1000
theorem pV.ok{m:fL}(h:pV m):nf m:=⟨by have:=h.CD;omega,by have:=h.len;omega,λv hv=>by have:=h.yS v hv;omega⟩
theorem zs8{s:zf}{m:fL}(hm:nf m)(h:pK s m):pV m:=by
 have ho:=(C8 s).1 h.qv;obtain⟨f1,f2,f3⟩:=Ff.1 h.qk;refine⟨by have:=(xV.1 h.right).1;omega,?_,λv hv=> ?_⟩
 ·have:=zxj (lo:=0) f2 (λv hv=>by have:=V0 (SQ ho (f1 v hv).1);have e:=(VV (f1 v hv).1).2;rw[e] at this;exact⟨by omega,by omega⟩)
  omega
 ·obtain⟨v1,v2,v3,_,_⟩:=(Hs _ _ (hm.yS v hv)).1 (f1 v hv).2;have:=LC v1;omega
theorem zxp{x o:af}(h:o.size+x.size<=140737488355328):sP x o=some (o++x):=by unfold sP X7 z24;rw[zT h,zC,zc]
theorem Pq(s:zf)(hs:s.2.2.1.length<=maxLen)(f:gh):∀(l:List eH) (i:Int) (o:af),(∀v∈l,v.2.1.size<=1000)->o.size+3000*l.length<=100000000->
 fD (λi (x:eH) (o:af) K=>(oU s x.1).bind λr7=>(HP s.1 r7.1 x.2.1).bind λr8=>(sP r8.1 o).bind λr9=>K r9) (λo=>some (f,o)) l i o=some (f,o++oM s l)
 | [],i,o,_,_=>by rw[oM,zx0];rfl
 |x::r,i,o,h,ho=>by have hx:=h x aM;have hc:=abX s.1 (cV s x.1) x.2.1;rw[aB] at ho;rw[fD,Hp s _ hs,zc,adf _ _ _ (by omega),zc];dsimp only;rw[zxp (by omega),zc];rw[Pq s hs f r (i+1) _ (λv hv=>h v (aE _ hv)) (by rw[ss];omega),oM,df]
theorem ajT(style:Int)(m:af)(hm:oR m=true)(hs:style=1\/style=2):∃k,BN style m=some (nT style m,k):=by
 have h4:=(xV.1 hm).1;unfold BN X8 nT;rw[zaj m (by rw[zh];omega),zc,hm,ai,zD];rcases hs with rfl|rfl
 ·exact⟨true,rfl⟩
 ·rw[zF (by decide),zD,zT rfl,zC,zg9 m (by rw[zh];omega),zc,if_neg (by decide)];exact⟨_,rfl⟩
def yT(s:zf)(m:fL):af×gh:=if(pP s m).1=0 then(mg s m,pT) else(bs [],pP s m)
theorem zxq(s:zf)(m:fL)(hs:s.2.2.1.length<=maxLen)(h:nf m):vI s m=some (yT s m):=by
 unfold vI X6 yT;rw[zms s m hs h,zc];by_cases h0:(pP s m).1=0
 case neg=>rw[zF h0,if_neg h0];rfl
 have hm:=S0.1 h0;have GU:=zs8 h hm;have ho:=(C8 s).1 hm.qv;obtain⟨k,hk⟩:=ajT s.1 m.1 hm.right ho.1;have ht:=agU s.1 m.1;have hb:=adb s.1 (kB (lM m)) (lf (lM m));have:=GU.CD;have:=GU.len;rw[zT h0,ai,zD,if_pos h0,hk,zc,age m (by omega)];have w1:sP (nT s.1 m.1) (bs [])=some (nT s.1 m.1):=by rw[zxp (by show 0+_<=_;omega),Z3]
 have w2:sP (l9 s.1 (kB (lM m)) (lf (lM m))).1 (nT s.1 m.1)=some (nT s.1 m.1++(l9 s.1 (kB (lM m)) (lf (lM m))).1):=zxp (by omega);dsimp only;rw[w1,zc,zc,aix _ _ _ (AE _) (AF _),zc,w2,zc];have hl:=jJ wK m.2.1 (by rw[zh];omega) (λi (x:eH) (o:af) K=>(oU s x.1).bind λr7=>(HP s.1 r7.1 x.2.1).bind λr8=>(sP r8.1 o).bind λr9=>K r9) (λo=>some (pT,o)) (λk i o=>TD k m.2.1 (m.2.1.length:Int) i s pT o) (λk i o=>rfl) (nT s.1 m.1++(l9 s.1 (kB (lM m)) (lf (lM m))).1);rw[hl,Pq s hs _ m.2.1 0 _ GU.yS (by rw[ss];omega)];rfl
end eD

set_option maxRecDepth 10000
namespace eD
open Go.IntKind renaming wrap->zW,i64->zI,u8->zU
open Go Go.Ref
def nU(style:Int):Nat:=if style=2 then 2 else 4
def pF(style:Int)(b:af):af:=if style=2 then(z21 (b.extract 0 2) 4).1 else b.extract 0 4
def sn(s:zf)(b:af):Sum Int zQ:=
 if b.size<nU s.1 then .inl 2 else if oR (pF s.1 b)=true/\pG (pF s.1 b)=s.2.1 then .inr (pF s.1 b,nU s.1) else .inl 7
def oL(s:zf)(b:af):List Int->Nat->List eH->List eH×gh
 | [],a,o=>(o,if a<b.size then(12,129,()) else pT)
 |no::r,a,o=>if eK s no=false then(o,(9,no,())) else if¬(wP s.1 (cV s no) b a).2.2=0 then(o,((wP s.1 (cV s no) b a).2.2,no,())) else oL s b r (wP s.1 (cV s no) b a).2.1.toNat (o++ [(no,(wP s.1 (cV s no) b a).1,())])
def uR(s:zf)(b t:af)(g:Nat×Nat×Int×Int):fL×gh:=
 if¬g.2.2.2=0 then((t,[],()),(g.2.2.2,1,())) else((t,(oL s b (elems g.1 g.2.1) g.2.2.1.toNat []).1,()),(oL s b (elems g.1 g.2.1) g.2.2.1.toNat []).2)
def Nr(s:zf)(b:af):Sum Int zQ->fL×gh
 | .inl e=>(mj,(e,0,()))
 | .inr q=>uR s b q.1 (jo s.1 b q.2)
def mV(s:zf)(b:af):fL×gh:=if¬(qx s).1=0 then(mj,(1,-1,())) else Nr s b (sn s b)
def IX:Sum Int zQ->af×Int×Int
 | .inl e=>(bs [],0,e)
 | .inr q=>(q.1,(q.2:Int),0)
theorem agV(style:Int)(b:af):(pF style b).size<=2000:=by
 unfold pF;split
 ·generalize hg:z21 (b.extract 0 2) 4=g;obtain⟨t,e,i⟩:=g;have:=za9 hg;dsimp only;omega
 ·rw[b9];omega
theorem OV(s:zf)(t:af)(z:Nat)(ht:t.size<=2000):((rY t).bind λr3=>(bif(!r3.2) then some (bs [],(0:Int),(7:Int)) else(bif(!(decide (r3.1=s.2.1))) then some (bs [],(0:Int),(7:Int)) else some (t,(z:Int),(0:Int)))))=some (IX (if oR t=true/\pG t=s.2.1 then .inr (t,z) else .inl 7)):=by
 rw[Vm t (by rw[zh];omega),zc];dsimp only;cases hr:oR t with
 |false=>rfl
 |true=>
  rw[ai,zD];by_cases hv:pG t=s.2.1
  ·rw[zT hv,if_pos ⟨rfl,hv⟩];rfl
  ·rw[zF hv,if_neg (λh=>hv h.2)];rfl
theorem agW(s:zf)(b:af)(hb:b.size<=1099511627776):BI s b=some (IX (sn s b)):=by
 have h4:Q2 4=some 2:=by have:=SB 4 (by decide) (by decide);exact this
 have e0:((2:Int)).toNat=2:=rfl;have e4:((4:Int)).toNat=4:=rfl;have tD:=agV s.1 b;unfold BI XO sn;by_cases h2:s.1=2
 ·have hz:nU 2=2:=rfl;have hT:pF 2 b=(z21 (b.extract 0 2) 4).1:=rfl;rw[h2] at tD;simp only[h2,decide_true,zC,h4,zc,e0];rw[hz];by_cases hc:b.size<2
  ·rw[zT (by omega),if_pos hc];rfl
  ·rw[zF (by omega),zD,zT (by decide),zC,zT (by omega),zC,if_neg hc,zg8 _ _ (by rw[b9];omega),zc,<-hT];exact OV s (pF 2 b) 2 tD
 ·have hz:nU s.1=4:=by unfold nU;rw[if_neg h2]
  have hT:pF s.1 b=b.extract 0 4:=by unfold pF;rw[if_neg h2]
  simp only[h2,decide_false,zD,e4];rw[hz];by_cases hc:b.size<4
  ·rw[zT (by omega),if_pos hc];rfl
  ·rw[zF (by omega),zD,zT (by omega),zC,if_neg hc,<-hT];exact OV s (pF s.1 b) 4 tD
theorem acM{h l:Nat}{pre r:List Int}{no:Int}(he:elems h l=pre++no::r):qU h l no=r.headD 0:=by have hs:=Vg h l;rw[he] at hs;have hp:=cz.1 hs;have hq:=bk.1 hp.2.1;unfold qU;rw[he,jD,List.filter_eq_nil_iff.2 (λx hx=>by have:=hp.2.2 x hx no aM;simp;omega),bD,kf (by simp),dz.2 (λx hx=>by have:=hq.1 x hx;simp;omega)]
theorem adB(h l:Nat):qU h l 0=(elems h l).headD 0:=by unfold qU;rw[dz.2 (λx hx=>by have:=zgz ((Ho h l x).1 hx);simp;omega)]
theorem VT(h l:Nat):(elems h l).length<=128:=by unfold elems;exact Nat.le_trans (List.length_filter_le _ _) (by rw[ajs];exact aZ _)
theorem afz{style:Int}{s:Spec}{b:af}{a:Nat}(hb:b.size<=1099511627776)(h:(wP style s b a).2.2=0):(((wP style s b a).2.1.toNat:Nat):Int)=(wP style s b a).2.1:=by generalize hg:wP style s b a=g at h⊢;obtain⟨t,z,e⟩:=g;dsimp only at h⊢;subst h;have:=(zcy hb hg).2.2.1;omega
def Nt(b:af)(e:Sum (af×Int×fL×gh×fL) (af×Int×fL×gh×fL)):ae (fL×gh):=Sum.elim (λwe=>some (we.2.2.1,we.2.2.2.1)) (λwe=>bif(decide (we.2.1<(we.1.size:Int))) then some (we.2.2.2.2,((12:Int),(129:Int),())) else some (we.2.2.2.2,pT)) e
theorem zn0(s:zf)(hs:s.2.2.1.length<=maxLen)(b t:af)(hb:b.size<=1099511627776)(h l:Nat)(hh:h<lK)(hl:l<lK):∀(r pre:List Int) (k a:Nat) (o:List eH),elems h l=pre++r->o.length<=pre.length->r.length<k->
 (Ke k b (a:Int) (r.headD 0) s mj pT (t,o,()) ((h:Int),(l:Int),())).bind (Nt b)=some ((t,(oL s b r a o).1,()),(oL s b r a o).2)
 |r,pre,0,a,o,_,_,hk=>by omega
 | [],pre,k+1,a,o,he,ho,hk=>by
   unfold Ke TC oL;rw[show([]:List Int).headD 0=0 from rfl,zT (p:=(0:Int)=0) rfl,ai,zD,zc];unfold Nt;rw[cj];dsimp only;by_cases hc:a<b.size
   ·rw[zT (by omega),if_pos hc];rfl
   ·rw[zF (by omega),if_neg hc];rfl
 |no::r,pre,k+1,a,o,he,ho,hk=>by
  have gL:no∈elems h l:=by rw[he];exact ea _ aM
  have vn:=zgz ((Ho h l no).1 gL);have hlen:=VT h l;rw[he,aF,aB] at hlen;rw[aB] at hk;unfold Ke TC oL;rw[show(no::r).headD 0=no from rfl,zF (by omega:¬no=0),aY,zC,Hp s _ hs,zc];dsimp only;cases hf:eK s no with
  |false=>rfl
  |true=>
   rw[ai,zD,if_neg (by decide),ade _ _ _ _ hb,zc];by_cases hz:(wP s.1 (cV s no) b a).2.2=0
   case neg=>rw[zF hz,if_pos hz];rfl
   rw[zT hz,ai,zD,if_neg (λh=>h hz),zT (by simp only[cr];omega),zC,Qg h l hh hl no (by omega) (by omega),zc,acM he,<-afz hb hz];exact zn0 s hs b t hb h l hh hl r (pre++ [no]) k _ _ (by rw[he,aQ];rfl) (by rw[aF,aF,cr,cr];omega) (by omega)
theorem aiw{style:Int}{b:af}{a:Nat}(h:(jo style b a).2.2.2=0):(jo style b a).1<lK/\(jo style b a).2.1<lK/\(((jo style b a).2.2.1.toNat:Nat):Int)=(jo style b a).2.2.1:=by generalize hg:jo style b a=g at h⊢;obtain⟨h',l,z,e⟩:=g;dsimp only at h⊢;subst h;obtain⟨_,q1,q2,q3,_⟩:=Ph hg;exact⟨by show h'<18446744073709551616;omega,q2,by omega⟩
theorem adZ(s:zf)(b:af)(hs:s.2.2.1.length<=maxLen)(hb:b.size<=1099511627776):xn s b=some (mV s b):=by
 unfold xn XM mV;rw[SR s hs,zc];by_cases h0:(qx s).1=0
 case neg=>rw[zF h0,if_pos h0];rfl
 rw[zT h0,ai,zD,if_neg (λh=>h h0),agW s b hb,zc];cases ht:sn s b with
 |inl e=>
  have he:e≠0:=by
   unfold sn at ht;split at ht
   ·cases ht;decide
   ·split at ht
    ·cases ht
    ·cases ht;decide
  exact Sd he
 |inr q=>
  obtain⟨t,z⟩:=q;refine(Se (p:=(0:Int)=0) rfl).trans ?_;dsimp only[IX,Nr,uR];rw[aiv _ _ _ hb,zc];by_cases he:(jo s.1 b z).2.2.2=0
  case neg=>rw[if_pos he];exact Sd he
  rw[if_neg (λh=>h he)];refine(Se he).trans ?_;obtain⟨q1,q2,q3⟩:=aiw he;dsimp only[bmR];rw[Qg _ _ q1 q2 0 (by decide) (by decide),zc,adB,<-q3];exact zn0 s hs b t hb _ _ q1 q2 (elems (jo s.1 b z).1 (jo s.1 b z).2.1) [] bG _ [] rfl (aZ _) (by have:=VT (jo s.1 b z).1 (jo s.1 b z).2.1;rw[zv];omega)
end eD

set_option maxRecDepth 10000
namespace eD
open Go.IntKind renaming wrap->zW,i64->zI,u8->zU
open Go Go.Ref
theorem z141:∀{l r:List Int},l.Pairwise (· < ·)->r.Pairwise (· < ·)->(∀v,v∈l↔v∈r)->l=r
 | [],[],_,_,_=>rfl
 | [],y::r,_,_,h=>by have:=(h y).2 aM;cases this
 |x::l,[],_,_,h=>by have:=(h x).1 aM;cases this
 |x::l,y::r,h1,h2,h=>by
  obtain⟨a1,a2⟩:=bk.1 h1;obtain⟨b1,b2⟩:=bk.1 h2;have e:x=y:=by
   rcases aD.1 ((h x).1 aM) with e|hx
   ·exact e
   ·rcases aD.1 ((h y).2 aM) with e|hy
    ·exact e.symm
    ·have:=a1 y hy;have:=b1 x hx;omega
  subst e;rw[z141 a2 b2 λv=>⟨λhv=> ?_,λhv=> ?_⟩]
  ·rcases aD.1 ((h v).1 (aE _ hv)) with e|h3
   ·have:=a1 v hv;omega
   ·exact h3
  ·rcases aD.1 ((h v).2 (aE _ hv)) with e|h3
   ·have:=b1 v hv;omega
   ·exact h3
theorem aiP{l:List Int}(hs:l.Pairwise (· < ·))(hr:∀x∈l,1<=x/\x<=128):elems (kB l) (lf l)=l:=
 z141 (Vg _ _) hs λv=>by
  rw[Ho,Kj];unfold rA;constructor
  ·intro h;rw[ap,decide_eq_true_eq] at h;exact h.1
  ·intro h;rw[ap,decide_eq_true_eq,decide_eq_true_eq];exact⟨h,hr v h⟩
theorem ano{h l:Nat}(hh:h<lK)(hl:l<lK):kB (elems h l)=h/\lf (elems h l)=l:=
 Ru (AE _) (AF _) hh hl λn n1 n2=>by
  rw[Kj];unfold rA;rw[zT (p:=1<=n/\n<=128) ⟨n1,n2⟩,Bool.and_true];cases hn:hG h l n with
  |true=>exact zT ((Ho h l n).2 hn)
  |false=>exact zF λhm=>by rw[(Ho h l n).1 hm] at hn;cases hn
theorem zxd{s:zf}(h:pL s){no:Int}(hh:eK s no=true):2<=no/\no<=128:=by have:=V0 (SQ h hh);rw[(VV hh).2] at this;exact this
theorem zy8(s:zf)(ho:pL s):∀(l o:List eH) (x:af),(∀v∈l,eK s v.1=true/\eS (cV s v.1) v.2.1=0/\v.2.1.size<=1000)->oL s (x++oM s l) (l.map λv=>v.1) x.size o=(o++l,pT)
 | [],o,x,_=>by rw[oM,zx0,bM,eA,oL,if_neg (by omega)]
 |v::r,o,x,h=>by
  obtain⟨h1,h2,h3⟩:=h v aM;have hb:=afy (style:=s.1) ho.1 (by omega) h2 x (oM s r);have e1:x++oM s (v::r)=x++(yW s.1 (cV s v.1) v.2.1).1++oM s r:=by rw[oM,df]
  rw[bd,oL,if_neg (by rw[h1];decide),e1,hb];dsimp only;rw[if_neg (λh=>h rfl),ar,<-ss,zy8 s ho r _ (x++(yW s.1 (cV s v.1) v.2.1).1) λw hw=>h w (aE _ hw),aQ];rfl
theorem zzz{s:zf}(hs:s.1=1\/s.1=2){m y:af}(hm:oR m=true):pF s.1 (nT s.1 m++y)=m/\(nT s.1 m).size=nU s.1:=by
 obtain⟨h4,hd⟩:=xV.1 hm;have e0:∀(p:af) (k:Nat),p.size=k->(p++y).extract 0 k=p:=λp k hk=>by have:=Yu (bs []) p y;rw[Z3,show(bs []).size=0 from rfl,Nat.zero_add,hk] at this;exact this
 unfold pF nT nU;rcases hs with hs|hs
 ·have n2:¬s.1=2:=by omega
  rw[if_neg n2,if_pos hs,if_neg n2];exact⟨e0 m 4 h4,h4⟩
 ·have n1:¬s.1=1:=by omega
  have hz:(yY m).1.size=2:=by rw[Sw (by omega) hd,h4]
  rw[if_pos hs,if_neg n1,if_pos hs,e0 _ 2 hz];have:=znu (s:=m) (by omega) hd;rw[h4] at this;rw[show(4:Int)=((4:Nat):Int) from rfl,this];exact⟨rfl,hz⟩
theorem aiH{s:zf}{m:fL}(h:pK s m)(GU:pV m):mV s (mg s m)=(m,pT):=by
 have ho:=(C8 s).1 h.qv;obtain⟨f1,f2,f3⟩:=Ff.1 h.qk;have EE:∀n∈lM m,2<=n/\n<=128:=λn hn=>by obtain⟨v,hv,rfl⟩:=bm.1 hn;exact zxd ho (f1 v hv).1
 have Cp:(lM m).Pairwise (· < ·):=jV.2 f2;have oF:=aiP Cp λx hx=>by have:=EE x hx;omega
 have h1:kB (lM m)<9223372036854775808:=by
  have:=ank (lM m);rw[zF (λh1=>by have:=EE 1 h1;omega)] at this;cases hd:decide (kB (lM m)<9223372036854775808) with
  |true=>exact of_decide_eq_true hd
  |false=>rw[hd] at this;cases this
 obtain⟨t1,t2⟩:=zzz (s:=s) ho.1 (m:=m.1) (y:=(l9 s.1 (kB (lM m)) (lf (lM m))).1++oM s m.2.1) h.right;have e1:mg s m=nT s.1 m.1++((l9 s.1 (kB (lM m)) (lf (lM m))).1++oM s m.2.1):=by unfold mg;rw[df]
 have hb:=alv (style:=s.1) ho.1 h1 (AF (lM m)) (nT s.1 m.1) (oM s m.2.1);have lL:nU s.1<=(mg s m).size:=by rw[e1,ss,t2];omega
 unfold mV;rw[if_neg (λhn=>hn h.qv)];have hT:sn s (mg s m)= .inr (m.1,nU s.1):=by unfold sn;rw[if_neg (by omega),e1,t1,if_pos ⟨h.right,h.U8⟩]
 rw[hT];show uR s (mg s m) m.1 (jo s.1 (mg s m) (nU s.1))=_;rw[<-t2];show uR s (mg s m) m.1 (jo s.1 (nT s.1 m.1++(l9 s.1 (kB (lM m)) (lf (lM m))).1++oM s m.2.1) (nT s.1 m.1).size)=_;rw[hb];unfold uR;dsimp only;rw[if_neg (λhn=>hn rfl),ar,oF];have hd:=zy8 s ho m.2.1 [] (nT s.1 m.1++(l9 s.1 (kB (lM m)) (lf (lM m))).1) λv hv=>⟨(f1 v hv).1,(f1 v hv).2,GU.yS v hv⟩
 rw[ss] at hd;have Gu:oL s (mg s m) (lM m) ((nT s.1 m.1).size+(l9 s.1 (kB (lM m)) (lf (lM m))).1.size) []=([]++m.2.1,pT):=hd;rw[Gu];rfl
theorem zrf(s:zf)(b:af)(hb:b.size<=1099511627776):∀(r:List Int) (a:Nat) (o q:List eH) (f:gh),a<=b.size->oL s b r a o=(q,f)->f.1=0->f=pT/\∃l,q=o++l/\(l.map λv=>v.1)=r/\oM s l=b.extract a b.size/\∀v∈l,eK s v.1=true/\eS (cV s v.1) v.2.1=0/\v.2.1.size<=999
 | [],a,o,q,f,ha,h,h0=>by
   rw[oL] at h;by_cases hc:a<b.size
   ·rw[if_pos hc] at h;injection h with _ h
    rw[<-h] at h0;cases h0
   ·rw[if_neg hc] at h;injection h with h1 h2
    refine⟨h2.symm,[],by rw[<-h1,bM],rfl,?_,λv hv=>by cases hv⟩;have:a=b.size:=by omega
    rw[this,oM];apply A7;rw[xU,aK (by rw[aU];omega)];rfl
 |no::r,a,o,q,f,ha,h,h0=>by
  rw[oL] at h;split at h
  ·injection h with _ h;rw[<-h] at h0;cases h0
  ·rename_i hf;have hf:eK s no=true:=by cases hh:eK s no with
    |true=>rfl
    |false=>exact absurd hh hf
   split at h
   ·rename_i hz;injection h with _ h
    rw[<-h] at h0;exact absurd h0 hz
   ·rename_i hz;generalize hg:wP s.1 (cV s no) b (a:Int)=g at h hz;obtain⟨t,z,e⟩:=g;dsimp only at h hz;have he:e=0:=dy λhn=>hz hn;subst he;obtain⟨c1,c2,c3,c4,c5,c6⟩:=zcy hb hg;obtain⟨i1,l,i2,i3,i4,i5⟩:=zrf s b hb r z.toNat _ q f (by omega) h h0;refine⟨i1,(no,t,())::l,by rw[i2,aQ];rfl,by rw[bd,i3],?_,λv hv=> ?_⟩
    ·rw[oM,i4];dsimp only;rw[c6];exact TM _ (by omega) (by omega)
    ·rcases aD.1 hv with rfl|hv
     ·exact⟨hf,c2,c5⟩
     ·exact i5 v hv
theorem alG(b:af):b.extract 0 b.size=b:=by apply A7;rw[xU,aN,bV (by rw[zg];exact aZ _)]
theorem afI{s:zf}{b:af}{m:fL}{f:gh}(hb:b.size<=1099511627776)(h:mV s b=(m,f))(h0:f.1=0):f=pT/\pK s m/\pV m/\mg s m=b:=by
 unfold mV at h;split at h
 ·injection h with _ h;rw[<-h] at h0;cases h0
 rename_i EI;have EI:(qx s).1=0:=dy λhn=>EI hn;have ho:=(C8 s).1 EI;cases ht:sn s b with
 |inl e=>
  rw[ht] at h;have he:e≠0:=by
   unfold sn at ht;split at ht
   ·cases ht;decide
   ·split at ht
    ·cases ht
    ·cases ht;decide
  injection h with _ h
  rw[<-h] at h0;exact absurd h0 he
 |inr q=>
  rw[ht] at h;unfold sn at ht;split at ht
  ·cases ht
  rename_i lL;split at ht
  case isFalse=>cases ht
  rename_i hr;obtain⟨mP,nQ⟩:=hr;injection ht with ht
  subst ht;replace h:uR s b (pF s.1 b) (jo s.1 b (nU s.1))=(m,f):=h;have htc:nT s.1 (pF s.1 b)=b.extract 0 (nU s.1):=by
   obtain⟨h4,hd⟩:=xV.1 mP;unfold nT pF nU at*;rcases ho.1 with h1|h2
   ·rw[if_pos h1,if_neg (by omega),if_neg (by omega)]
   ·rw[if_pos h2] at lL mP h4 hd⊢;rw[if_neg (by omega),if_pos h2];generalize hg:z21 (b.extract 0 2) 4=g at mP h4 hd⊢;obtain⟨t,e,i⟩:=g;dsimp only at h4 hd⊢;have EK:(b.extract 0 2).size=2:=by rw[b9];omega
    have he:e=0:=by
     unfold z21 at hg;rw[if_neg (by decide),if_neg (by rw[EK];decide)] at hg;split at hg
     ·injection hg with hg _
      rw[<-hg] at h4;cases h4
     ·injection hg with _ hg
      injection hg with hg _
      exact hg.symm
    subst he;obtain⟨a1,_,_⟩:=zgc hg (by rw[EK];decide);rw[a1]
  unfold uR at h;generalize hg:jo s.1 b ((nU s.1:Nat):Int)=g at h;obtain⟨hi,lo,z,e⟩:=g;dsimp only at h;split at h
  ·rename_i he;injection h with _ h
   rw[<-h] at h0;exact absurd h0 he
  rename_i he;have he:e=0:=dy λhn=>he hn;subst he;obtain⟨_,b1,b2,b3,b4,b5⟩:=Ph hg;generalize hq:oL s b (elems hi lo) z.toNat []=d at h;obtain⟨q,f'⟩:=d;injection h with hm hf
  dsimp only at hm hf;subst hf;obtain⟨i1,l,i2,i3,i4,i5⟩:=zrf s b hb _ _ _ _ _ (by omega) hq h0;rw[bD] at i2;subst i2;subst hm;have EE:lM (pF s.1 b,q,())=elems hi lo:=i3;obtain⟨s1,s2⟩:=ano (h:=hi) (l:=lo) (by show hi<18446744073709551616;omega) b2;have Cp:sB q:=by have:=Vg hi lo;rw[<-i3] at this;exact jV.1 this
  refine⟨i1,⟨EI,mP,nQ,Ff.2 ⟨λv hv=>⟨(i5 v hv).1,(i5 v hv).2.1⟩,Cp,λv hv=>by have:=zxd ho (i5 v hv).1;omega⟩⟩,⟨by have:=(xV.1 mP).1;dsimp only;omega,?_,λv hv=>by have:=(i5 v hv).2.2;omega⟩,?_⟩
  ·have:=VT hi lo;rw[<-i3,cf] at this;dsimp only;omega
  ·unfold mg;rw[EE,s1,s2];dsimp only;rw[htc,b5,i4,TM _ (by omega) (by omega),TM _ (by omega) (by omega),alG]
abbrev dt:=zf×Map×List Int×List eH×Unit
abbrev OS:eH:=(0,bs [],())
def sX(s:zf)(prev:List Int)(no:Int):Int:=bif !eK s no then 9 else bif decide (no=39) then 1 else bif decide (no∈prev) then 10 else 0
def pd(s:zf):List Int->List Int->Int->ae (Int×Int)
 |_,[],_=>none
 |prev,no::r,i=>bif decide (sX s prev no=0) then pd s (prev++ [no]) r (i+1) else some (sX s prev no,i)
def qH(a:Spec)(prev:List Int)(c:eH):Int:=bif decide (c.1<0) then 1 else bif decide (16<c.1) then 1 else bif decide (c.1∈prev) then 10 else eS a c.2.1
def n0(a:Spec):List Int->List eH->Int->ae (Int×Int)
 |_,[],_=>none
 |prev,c::r,i=>bif decide (qH a prev c=0) then n0 a (prev++ [c.1]) r (i+1) else some (qH a prev c,i)
def oN(s:dt):Int×Int×Int:=
 bif !decide ((qx s.1).1=0) then(1,1,0) else bif !eK s.1 39 then(9,1,1) else match pd s.1 [] s.2.2.1 0 with
  |some e=>(e.1,2,e.2)
  |none=>match n0 (cV s.1 39) [] s.2.2.2.1 0 with
   |some e=>(e.1,3,e.2)
   |none=>bif decide ((0:Int)∈s.2.2.2.1.map λc=>c.1) then(0,0,0) else(15,3,(s.2.2.2.1.length:Int))
structure lO(s:dt):Prop where
 qv:s.1.2.2.1.length<=maxLen
 Ac:s.2.2.1.length<=1000000
 pX:s.2.2.2.1.length<=1000000
 yS:∀c∈s.2.2.2.1,c.2.1.size<=1099511627776
theorem PB(no:Int):∀(l:List Int) (i:Int),0<=i->∃r,fD (λi (x:Int) (s:Unit) K=>bif decide (no=x) then some (Sum.inl i) else K s) (λ_=>some (Sum.inr ())) l i ()=some r/\(no∈l->∃j,r= .inl j/\0<=j)/\(no∉l->r= .inr ())
 | [],i,_=>⟨_,rfl,λh=>(by cases h),λ_=>rfl⟩
 |x::l,i,h=>by
  rw[fD];by_cases e:no=x
  ·rw[zT e,zC];exact⟨_,rfl,λ_=>⟨i,rfl,h⟩,λhn=>absurd (by rw[e];exact aM) hn⟩
  ·rw[zF e,zD];obtain⟨r,h1,h2,h3⟩:=PB no l (i+1) (by omega);exact⟨r,h1,λhm=>h2 ((aD.1 hm).resolve_left e),λhn=>h3 λhm=>hn (aE _ hm)⟩
theorem abT(l:List Int)(no:Int)(h:l.length<=maxLen):BG l no=some (decide (no∈l)):=by
 unfold BG XA DE XG;have:=jJ (0:Int) l h (λi (x:Int) (s:Unit) K=>bif decide (no=x) then some (Sum.inl i) else K s) (λ_=>some (Sum.inr ()))
  (λk i s=>TB k l no (l.length:Int) i) (λk i s=>rfl) ()
 dsimp only;obtain⟨r,h1,h2,h3⟩:=PB no l 0 (c9 _);rw[this,h1,zc];by_cases hm:no∈l
 ·obtain⟨j,rfl,hj⟩:=h2 hm;rw[zT hm];show some (decide (0<=j))=_;rw[zT hj]
 ·rw[h3 hm,zF hm];rfl
theorem PC(c:eH):∀(l:List eH) (i:Int),0<=i->∃r,fD (λi (x:eH) (s:eH) K=>((zK x s).bind λr1=>(bif r1.1 then some (Sum.inl (i,r1.2)) else K r1.2))) (λs=>some (Sum.inr s)) l i c=some r/\(c.1∈l.map (λv=>v.1)->∃j,r= .inl (j,c)/\0<=j)/\(c.1∉l.map (λv=>v.1)->r= .inr c)
 | [],i,_=>⟨_,rfl,λh=>(by cases h),λ_=>rfl⟩
 |x::l,i,h=>by
  rw[fD];unfold zK Xd;rw[zc];dsimp only;rw[bd];by_cases e:x.1=c.1
  ·rw[zT e,zC];exact⟨_,rfl,λ_=>⟨i,rfl,h⟩,λhn=>absurd (by rw[e];exact aM) hn⟩
  ·rw[zF e,zD];obtain⟨r,h1,h2,h3⟩:=PC c l (i+1) (by omega);exact⟨r,h1,λhm=>h2 ((aD.1 hm).resolve_left λe2=>e e2.symm),λhn=>h3 λhm=>hn (aE _ hm)⟩
theorem abU(l:List eH)(c:eH)(h:l.length<=maxLen):BF l c=some (decide (c.1∈l.map λv=>v.1),c):=by
 unfold BF Xz DC XC;have:=jJ OS l h (λi (x:eH) (s:eH) K=>((zK x s).bind λr1=>(bif r1.1 then some (Sum.inl (i,r1.2)) else K r1.2))) (λs=>some (Sum.inr s))
  (λk i s=>Tz k l (l.length:Int) i s) (λk i s=>rfl) c
 dsimp only;obtain⟨r,h1,h2,h3⟩:=PC c l 0 (c9 _);rw[this,h1,zc];by_cases hm:c.1∈l.map λv=>v.1
 ·obtain⟨j,rfl,hj⟩:=h2 hm;rw[zT hm];show some (decide (0<=j),c)=_;rw[zT hj]
 ·rw[h3 hm,zF hm];rfl
theorem Ly{α:Type}{l:List α}{j:Nat}(h:j<l.length)(d:α):l.getD j d=l[j]:=by rw[al,av h];rfl
theorem alD(s:dt)(h:lO s){j:Nat}(hj:j<s.2.2.1.length):BA s (j:Int)=some (sX s.1 (s.2.2.1.take j) s.2.2.1[j]):=by
 have he:=h.Ac;unfold BA Xe sX;rw[zi hj,ar,Ly hj,Hp s.1 _ h.qv,zc];cases eK s.1 s.2.2.1[j] with
 |false=>rfl
 |true=>
  dsimp only;rw[ai,zD,zD];cases decide (s.2.2.1[j]=39) with
  |true=>rfl
  |false=>rw[zD,zD,zT (by omega),zC,zT (by omega),zC,aN,abT _ _ (by rw[aU,zh];omega),zc];cases decide (s.2.2.1[j]∈s.2.2.1.take j)<;>rfl
theorem alA(s:dt)(h:lO s)(a:Spec){j:Nat}(hj:j<s.2.2.2.1.length):Bz s (j:Int) a=some (qH a ((s.2.2.2.1.take j).map λc=>c.1) s.2.2.2.1[j]):=by
 have he:=h.pX;have ht:=h.yS _ (b6 hj);unfold Bz Xc qH;rw[zi hj,ar,Ly hj];cases decide (s.2.2.2.1[j].1<0) with
 |true=>rfl
 |false=>
  rw[zD,zD];cases decide (16<s.2.2.2.1[j].1) with
  |true=>rfl
  |false=>
   rw[zD,zD,zT (by omega),zC,zT (by omega),zC,aN,abU _ _ (by rw[aU,zh];omega),zc];dsimp only;cases decide (s.2.2.2.1[j].1∈(s.2.2.2.1.take j).map λc=>c.1) with
   |true=>rfl
   |false=>rw[zD,zD,Fi _ _ ht];rfl
theorem zyi(s:dt)(h:lO s)(sp:Spec):∀(n j k:Nat),j+n=s.2.2.1.length->n<k->Kb k (s.2.2.1.length:Int) (j:Int) s sp=some (match pd s.1 (s.2.2.1.take j) (s.2.2.1.drop j) j with
 |some e=> .inl (e.1,2,e.2,s,sp)
 |none=> .inr (s,sp))
 |n,j,0,_,hk=>by omega
 |0,j,k+1,hj,hk=>by unfold Kb Ts;rw[zF (by omega),zD,aK (by omega)];rfl
 |n+1,j,k+1,hj,hk=>by
  have bR:j<s.2.2.1.length:=by omega
  have he:=h.Ac;unfold Kb Ts;rw[zT (by omega),zC,alD s h bR,zc,aO bR,pd];cases decide (sX s.1 (s.2.2.1.take j) s.2.2.1[j]=0) with
  |false=>rfl
  |true=>rw[ai,zD,zC];dsimp only;rw[zu (by omega),dj bR];exact zyi s h sp n (j+1) k (by omega) (by omega)
def uI(t:Bool):List eH->Bool
 | []=>t
 |c::r=>uI (t||decide (c.1=0)) r
theorem Qd(t:Bool):∀l:List eH,uI t l=(t||decide ((0:Int)∈l.map λc=>c.1))
 | []=>by simp [uI]
 |c::r=>by rw[uI,Qd _ r,bd,Bool.or_assoc];congr 1;rw[<-Bool.decide_or];exact decide_eq_decide.2 ⟨λh=>h.elim (λe=>by rw[<-e];exact aM) (aE _),λh=>(aD.1 h).imp (λe=>e.symm) id⟩
theorem zgj(s:dt)(h:lO s)(a:Spec):∀(n j k:Nat) (t:Bool),j+n=s.2.2.2.1.length->n<k->∃t',Kc k t s.2.2.2.1 (s.2.2.2.1.length:Int) (j:Int) s a=some (match n0 a ((s.2.2.2.1.take j).map λc=>c.1) (s.2.2.2.1.drop j) j with
 |some e=> .inl (e.1,3,e.2,t',s)
 |none=> .inr (uI t (s.2.2.2.1.drop j),s))
 |n,j,0,t,_,hk=>by omega
 |0,j,k+1,t,hj,hk=>by unfold Kc Tt;rw[zF (by omega),zD,aK (by omega)];exact⟨t,rfl⟩
 |n+1,j,k+1,t,hj,hk=>by
  have bR:j<s.2.2.2.1.length:=by omega
  have he:=h.pX;unfold Kc Tt;rw[zT (by omega),zC,zi bR,alA s h a bR,zc,aO bR,n0,uI];cases decide (qH a ((s.2.2.2.1.take j).map λc=>c.1) s.2.2.2.1[j]=0) with
  |false=>exact⟨t,rfl⟩
  |true=>
   rw[ai,zD,zC];dsimp only;rw[zu (by omega),ar,Ly bR];have e:(s.2.2.2.1.take j).map (λc=>c.1)++ [s.2.2.2.1[j].1]=(s.2.2.2.1.take (j+1)).map λc=>c.1:=by rw[<-dj bR,cg];rfl
   rw[e];cases t with
   |true=>rw[zC,Bool.true_or];exact zgj s h a n (j+1) k true (by omega) (by omega)
   |false=>rw[zD,Bool.false_or];exact zgj s h a n (j+1) k _ (by omega) (by omega)
theorem zmx(s:dt)(h:lO s):Bv s=some (oN s):=by
 have he:=h.Ac;have hc:=h.pX;unfold Bv W5 oN;rw[SR s.1 h.qv,zc];cases decide ((qx s.1).1=0) with
 |false=>rfl
 |true=>
  rw[ai,zD,zD,Hp s.1 39 h.qv,zc];cases eK s.1 39 with
  |false=>rfl
  |true=>
   dsimp only;rw[ai,zD,zD];have e1:=zyi s h (cV s.1 39) s.2.2.1.length 0 bG (by omega) (by rw[zv];omega);rw[cZ,aN,show((0:Nat):Int)=0 from rfl] at e1;rw[e1,zc];cases pd s.1 [] s.2.2.1 0 with
   |some e=>rfl
   |none=>
    dsimp only;rw[cj];unfold W6;dsimp only;obtain⟨t',e2⟩:=zgj s h (cV s.1 39) s.2.2.2.1.length 0 bG false (by omega) (by rw[zv];omega);rw[cZ,aN,show((0:Nat):Int)=0 from rfl,eA] at e2;rw[e2,zc];cases n0 (cV s.1 39) [] s.2.2.2.1 0 with
    |some e=>rfl
    |none=>dsimp only;rw[cj];unfold W7;rw[Qd,Bool.false_or];dsimp only;cases decide ((0:Int)∈s.2.2.2.1.map λc=>c.1)<;>rfl
theorem zmg(l:List eH)(hl:l.length<=9223372036854775807)(m:Nat)(hm:m<=l.length)(e:Int):∀(n j k:Nat),j+n=m->n<k->∃r,Ta k l (m:Int) e (j:Int)=some r/\(e∈((l.take m).drop j).map (λv=>v.1)->∃i,r= .inl i/\0<=i)/\(e∉((l.take m).drop j).map (λv=>v.1)->r= .inr ())
 |n,j,0,_,hk=>by omega
 |0,j,k+1,hj,hk=>by unfold Ta zte;rw[zF (by omega),zD,aK (by rw[aU];omega)];exact⟨_,rfl,λh=>(by cases h),λ_=>rfl⟩
 |n+1,j,k+1,hj,hk=>by
  have bR:j<l.length:=by omega
  have pj:j<(l.take m).length:=by rw[aU];omega
  unfold Ta zte;rw[zT (by omega),zC,zi bR,ar,Ly bR,aO pj,bd,List.getElem_take];by_cases he:l[j].1=e
  ·rw[zT he,zC];exact⟨_,rfl,λ_=>⟨(j:Int),rfl,by omega⟩,λhn=>absurd (by rw[he];exact aM) hn⟩
  ·rw[zF he,zD];dsimp only;rw[zu (by omega)];obtain⟨r,h1,h2,h3⟩:=zmg l hl m hm e n (j+1) k (by omega) (by omega);exact⟨r,h1,λhm=>h2 ((aD.1 hm).resolve_left λe2=>he e2.symm),λhn=>h3 λhm=>hn (aE _ hm)⟩
theorem zyr(l:List eH)(hl:l.length<=maxLen)(m:Nat)(hm:m<=l.length)(e:Int):∃r,Dp l (m:Int) e=some r/\decide (0<=r)=decide (e∈(l.take m).map λv=>v.1):=by
 unfold Dp QC;rw[zh] at hl;obtain⟨r,h1,h2,h3⟩:=zmg l (by omega) m hm e m 0 bG (by omega) (by rw[zv];omega);rw[show((0:Nat):Int)=0 from rfl] at h1;dsimp only;rw[h1,zc];rw[aN] at h2 h3;by_cases lR:e∈(l.take m).map λv=>v.1
 ·obtain⟨i,rfl,hi⟩:=h2 lR;exact⟨i,rfl,by rw[zT hi,zT lR]⟩
 ·rw[h3 lR];exact⟨-1,rfl,by rw[zF lR];rfl⟩
theorem zmd(s:dt)(h:lO s)(t5:Int):∀(n j k:Nat),j+n=s.2.2.1.length->n<k->S8 k t5 (j:Int) s=some (match pd s.1 (s.2.2.1.take j) (s.2.2.1.drop j) j with
 |some e=> .inl (e.1,2,e.2,t5,s)
 |none=> .inr (t5,s))
 |n,j,0,_,hk=>by omega
 |0,j,k+1,hj,hk=>by unfold S8 ztc;rw[zF (by omega),zD,aK (by omega)];rfl
 |n+1,j,k+1,hj,hk=>by
  have bR:j<s.2.2.1.length:=by omega
  have he:=h.Ac;have ih:=zmd s h t5 n (j+1) k (by omega) (by omega);have hw:∀{R:Type} (z:ae R),zd (j:Int) s.2.2.1.length z=z:=λz=>zi bR;unfold S8 ztc;simp only[hw];rw[zT (by omega),zC,ar,Ly bR,Vu s.1 _ h.qv,zc,aO bR,pd];unfold sX;rcases VB s.1 s.2.2.1[j] with⟨h1,h2,_⟩|⟨h1,_,h2,_⟩
  ·rw[h1,h2];rfl
  ·rw[h2,zF (by omega),zD,ai,zD];cases decide (s.2.2.1[j]=39) with
   |true=>rfl
   |false=>
    rw[zD,zD,zT (by omega),zC,zT (by omega),zC,aN,aj0 _ _ (by rw[aU,zh];omega),zc];cases decide (s.2.2.1[j]∈s.2.2.1.take j) with
    |true=>rfl
    |false=>rw[zD,zD,zT rfl,zC];rw[zu (by omega),dj bR];exact ih
theorem zmc(s:dt)(h:lO s)(t5:Int)(h5:0<=t5/\t5<s.1.2.2.1.length)(hs5:ah s.1.2.2.1 t5.toNat lJ=cV s.1 39):∀(n j k:Nat),j+n=s.2.2.2.1.length->n<k->S9 k t5 (j:Int) s=some (match n0 (cV s.1 39) ((s.2.2.2.1.take j).map λc=>c.1) (s.2.2.2.1.drop j) j with
 |some e=> .inl (e.1,3,e.2,s)
 |none=> .inr s)
 |n,j,0,_,hk=>by omega
 |0,j,k+1,hj,hk=>by unfold S9 ztd;rw[zF (by omega),zD,aK (by omega)];rfl
 |n+1,j,k+1,hj,hk=>by
  have bR:j<s.2.2.2.1.length:=by omega
  have he:=h.pX;have ih:=zmc s h t5 h5 hs5 n (j+1) k (by omega) (by omega);have hw:∀{R:Type} (z:ae R),zd (j:Int) s.2.2.2.1.length z=z:=λz=>zi bR;have hw5:∀{R:Type} (z:ae R),zd t5 s.1.2.2.1.length z=z:=λz=>zp h5.1 h5.2;have ht:=h.yS _ (b6 bR);obtain⟨r,f1,f2⟩:=zyr s.2.2.2.1 (by rw[zh];omega) j (by omega) s.2.2.2.1[j].1;unfold S9 ztd;simp only[hw,hw5];rw[zT (by omega),zC,ar,Ly bR,f1,zc,f2,hs5,K8 _ _ ht,zc,aO bR,n0];unfold qH;cases decide (s.2.2.2.1[j].1<0) with
  |true=>rfl
  |false=>
   rw[zD,zD];cases decide (16<s.2.2.2.1[j].1) with
   |true=>rfl
   |false=>
    rw[zD,zD];cases decide (s.2.2.2.1[j].1∈(s.2.2.2.1.take j).map λc=>c.1) with
    |true=>rfl
    |false=>
     rw[zD,zD];cases decide (eS (cV s.1 39) s.2.2.2.1[j].2.1=0) with
     |false=>rfl
     |true=>
      rw[ai,zD,zC];have e:(s.2.2.2.1.take j).map (λc=>c.1)++ [s.2.2.2.1[j].1]=(s.2.2.2.1.take (j+1)).map λc=>c.1:=by rw[<-dj bR,cg];rfl
      rw[zu (by omega),e];exact ih
theorem zot(s:dt)(h:lO s):HT s=some (oN s):=by
 have he:=h.Ac;have hc:=h.pX;unfold HT Qz oN;rw[zcm s.1 h.qv,zc];cases decide ((qx s.1).1=0) with
 |false=>rfl
 |true=>
  rw[ai,zD,zD,Vu s.1 39 h.qv,zc];rcases VB s.1 39 with⟨h1,h2,_⟩|⟨h1,h1',h2,h3⟩
  ·rw[h1,h2];rfl
  ·rw[h2,zF (by omega),zD,ai,zD];dsimp only;have e1:=zmd s h (n6 s.1.2.2.1 39 0) s.2.2.1.length 0 bG (by omega) (by rw[zv];omega);rw[cZ,aN,show((0:Nat):Int)=0 from rfl] at e1;rw[e1,zc];cases pd s.1 [] s.2.2.1 0 with
   |some e=>rfl
   |none=>
    dsimp only;rw[cj];unfold QA;dsimp only;have e2:=zmc s h (n6 s.1.2.2.1 39 0) ⟨h1,h1'⟩ h3 s.2.2.2.1.length 0 bG (by omega) (by rw[zv];omega);rw[cZ,aN,show((0:Nat):Int)=0 from rfl,eA] at e2;rw[e2,zc];cases n0 (cV s.1 39) [] s.2.2.2.1 0 with
    |some e=>rfl
    |none=>
     dsimp only;rw[cj];unfold QB;obtain⟨r,f1,f2⟩:=zyr s.2.2.2.1 (by rw[zh];omega) s.2.2.2.1.length (aZ _) 0;rw[List.take_length] at f2;rw[f1,zc];by_cases hr:0<=r
     ·rw[zT hr] at f2;rw[zF (by omega),<-f2];rfl
     ·rw[zF hr] at f2;rw[zT (by omega),<-f2];rfl
abbrev Kl:=List dt×Int×Unit
abbrev al0:zf:=((0:Int),(0:Int),([]:List Spec),())
abbrev rT:dt:=(al0,aaO,([]:List Int),([]:List eH),())
theorem Z5:∃k,bG=k+1+1+1:=⟨bG-3,by rw[zv]⟩
structure jG(p q:dt):Prop where
 sp:lO p
 sq:lO q
 pm:mB p.2.1
 qm:mB q.2.1
 OI:p.1.2.2.1.length<=200
 OJ:q.1.2.2.1.length<=200
 pe:p.2.2.1.length<=300
 qe:q.2.2.1.length<=300
 pml:p.2.1.2.1.length<=300
 qml:q.2.1.2.1.length<=300
 abD:∀c∈p.2.2.2.1,c.2.1.size<=1200
 abE:∀c∈q.2.2.2.1,c.2.1.size<=1200
def nZ(p q:dt)(n:Int):Int×Int×Int:=
 bif decide (n<1) then(5,2,0) else bif decide (65535<n) then(5,2,0)
 else bif !decide ((oN p).1=0) then((oN p).1,0,1) else bif !decide ((mi p.2.1 p.1 q.1).1=0) then((mi p.2.1 p.1 q.1).1,0,2)
 else bif !decide ((oN q).1=0) then((oN q).1,1,1) else bif !decide ((mi q.2.1 q.1 p.1).1=0) then((mi q.2.1 q.1 p.1).1,1,2) else(0,0,0)
theorem Fa{R:Type}(x:ae R):zd 0 2 x=x:=zp (by omega) (by omega)
theorem Fb{R:Type}(x:ae R):zd 1 2 x=x:=zp (by omega) (by omega)
theorem I0:zW zI ((1:Int)-(0:Int))=1:=by decide
theorem I1:zW zI ((1:Int)-(1:Int))=0:=by decide
theorem K2:zW zI ((0:Int)+(1:Int))=1:=by decide
theorem K3:zW zI ((1:Int)+(1:Int))=2:=by decide
theorem gp(p q:dt):ah [p,q] (0:Int).toNat rT=p:=rfl
theorem gq(p q:dt):ah [p,q] (1:Int).toNat rT=q:=rfl
theorem zdj(p q:dt)(n:Int)(h:jG p q):zL ([p,q],n,())=some (nZ p q n):=by
 obtain⟨k,hk⟩:=Z5;unfold zL Xg nZ;dsimp only;cases decide (n<1) with
 |true=>rfl
 |false=>
  cases decide (65535<n) with
  |true=>rfl
  |false=>
   rw[zD,zD,zD,zD,hk];unfold Kd Lo;simp only[Fa,Fb,I0,I1,K2,K3,gp,gq];rw[zT (by decide:(0:Int)<2),zC,zmx p h.sp,zc];cases decide ((oN p).1=0) with
   |false=>rfl
   |true=>
    rw[ai,zD,zD,z7v p.2.1 p.1 q.1 h.pm h.sp.qv h.sq.qv,zc];cases decide ((mi p.2.1 p.1 q.1).1=0) with
    |false=>rfl
    |true=>
     rw[ai,zD,zD];unfold Kd Lo;simp only[Fa,Fb,I0,I1,K2,K3,gp,gq];rw[zT (by decide:(1:Int)<2),zC,zmx q h.sq,zc];cases decide ((oN q).1=0) with
     |false=>rfl
     |true=>
      rw[ai,zD,zD,z7v q.2.1 q.1 p.1 h.qm h.sq.qv h.sp.qv,zc];cases decide ((mi q.2.1 q.1 p.1).1=0) with
      |false=>rfl
      |true=>rw[ai,zD,zD];unfold Kd Lo;rw[zF (by decide:¬(2:Int)<2),zD];rfl
theorem acV(p q:dt)(n:Int)(h:jG p q):HV ([p,q],n,())=some (nZ p q n):=by
 obtain⟨k,hk⟩:=Z5;unfold HV QD nZ;dsimp only;cases decide (n<1) with
 |true=>rfl
 |false=>
  cases decide (65535<n) with
  |true=>rfl
  |false=>
   rw[zD,zD,zD,zD,hk];unfold Tb V9;simp only[Fa,Fb,I0,I1,K2,K3,gp,gq];rw[zT (by decide:(0:Int)<2),zC,zot p h.sp,zc];cases decide ((oN p).1=0) with
   |false=>rfl
   |true=>
    rw[ai,zD,zD,zos p.2.1 p.1 q.1 h.pm h.sp.qv h.sq.qv,zc];cases decide ((mi p.2.1 p.1 q.1).1=0) with
    |false=>rfl
    |true=>
     rw[ai,zD,zD];unfold Tb V9;simp only[Fa,Fb,I0,I1,K2,K3,gp,gq];rw[zT (by decide:(1:Int)<2),zC,zot q h.sq,zc];cases decide ((oN q).1=0) with
     |false=>rfl
     |true=>
      rw[ai,zD,zD,zos q.2.1 q.1 p.1 h.qm h.sq.qv h.sp.qv,zc];cases decide ((mi q.2.1 q.1 p.1).1=0) with
      |false=>rfl
      |true=>rw[ai,zD,zD];unfold Tb V9;rw[zF (by decide:¬(2:Int)<2),zD];rfl
theorem Hb(p q r:dt):List.set [p,q] (0:Int).toNat r=[r,q]:=rfl
theorem Hc(p q r:dt):List.set [p,q] (1:Int).toNat r=[p,r]:=rfl
theorem UE(p q:dt):ah [p,q] (0:Int).toNat ((((0:Int),(0:Int),([]:List Spec),()),(([]:List eY),([]:List dC),()),([]:List Int),([]:List eH),()):dt)=p:=rfl
theorem UF(p q:dt):ah [p,q] (1:Int).toNat ((((0:Int),(0:Int),([]:List Spec),()),(([]:List eY),([]:List dC),()),([]:List Int),([]:List eH),()):dt)=q:=rfl
theorem w0{R:Type}(x:ae R):zd 0 2 x=x:=zp (by omega) (by omega)
theorem w1{R:Type}(x:ae R):zd 1 2 x=x:=zp (by omega) (by omega)
theorem ga(a b:zf):ah ([a,b]:List zf) (0:Int).toNat ((0:Int),(0:Int),([]:List Spec),())=a:=rfl
def mc(m:af):af:=strOf [ze m 0,ze m 1,ze m 2+1,ze m 3]
theorem alK{m:af}(h:m.size=4):bl m=[ze m 0,ze m 1,ze m 2,ze m 3]:=by
 have hl:(bl m).length=4:=by rw[zg];exact h
 have e:=λi=>uF m i
 match hb:bl m,hl with
 | [a,b,c,d],_=>rw[e 0,e 1,e 2,e 3,hb];rfl
theorem VI{m:af}(h:mM m=true):oR m=true/\(ze m 2=48\/ze m 2=50):=by unfold mM at h;rw[ap,Bool.or_eq_true,decide_eq_true_eq,decide_eq_true_eq] at h;exact h
theorem Rt{m:af}(h:mM m=true):bl (mc m)=[ze m 0,ze m 1,ze m 2+1,ze m 3]/\eJ [ze m 0,ze m 1,ze m 2+1,ze m 3]=true:=by obtain⟨hr,h2⟩:=VI h;have d0:=Fw hr 0 (by decide);have d1:=Fw hr 1 (by decide);have d3:=Fw hr 3 (by decide);have hd:eJ [ze m 0,ze m 1,ze m 2+1,ze m 3]=true:=Az.2 ⟨C9.2 d0,Az.2 ⟨C9.2 d1,Az.2 ⟨C9.2 (by omega),Az.2 ⟨C9.2 d3,rfl⟩⟩⟩⟩;exact⟨wO (zya hd),hd⟩
theorem alZ{m:af}(h:mM m=true):oR (mc m)=true/\pG (mc m)=pG m/\mM (mc m)=false:=by
 obtain⟨hr,h2⟩:=VI h;obtain⟨hb,hd⟩:=Rt h;have hs:(mc m).size=4:=by rw[<-zg,hb];rfl
 have nQ:oR (mc m)=true:=xV.2 ⟨hs,by rw[hb];exact hd⟩;have e0:ze (mc m) 0=ze m 0:=by rw[uF (mc m),hb];rfl
 have e2:ze (mc m) 2=ze m 2+1:=by rw[uF (mc m),hb];rfl
 refine⟨nQ,?_,?_⟩
 ·unfold pG;rw[hr,nQ,e0]
 ·unfold mM;rw[nQ,e2,zF (by omega),zF (by omega)];rfl
theorem acn(m:af)(h:m.size<=maxLen):Br m=some (if mM m=true then(mc m,true) else(bs [],false)):=by
 unfold Br WR;rw[zcl m h,zc];cases hr:mM m with
 |false=>rfl
 |true=>
  obtain⟨mP,h2⟩:=VI hr;have h4:=(xV.1 mP).1;have hb:=alK h4;have z1:(m.extract 0 2).size=2:=by rw[b9];omega
  have z3:(m.extract 3 m.size).size=1:=by rw[b9];omega
  have zs:∀x:Int,(strOf [x]).size=1:=λx=>by rw[wM];rfl
  have hw:zW zU (ze m 2+1)=ze m 2+1:=by rcases h2 with e|e<;>rw[e]<;>decide
  rw[ai,zD,show((2:Int)).toNat=2 from rfl,show((3:Int)).toNat=3 from rfl,zT (by omega),zC,show(2:Int)=((2:Nat):Int) from rfl,zi (by omega),hw,zT (by rw[z1,zs];decide),zC,zT (by omega),zC,zT (by rw[ss,z1,zs,z3];decide),zC,if_pos rfl];congr 2;apply A7;rw[tR,tR,xU,xU,h4,hb,(Rt hr).1];have hx:zl (ze m 2+1):=by unfold zl;omega
  rw[wO (xs:=[ze m 2+1]) (by simpa using hx)];rfl
def nR(l:List eH)(no:Int):ae eH:=l.find? λv=>decide (v.1=no)
theorem Pw(no:Int):∀(l:List eH) (i:Int),fD (λi (x:eH) (s:Unit) K=>bif decide (x.1=no) then some (Sum.inl (x.2.1,true)) else K s) (λ_=>some (Sum.inr ())) l i ()=some (match nR l no with
 |some v=> .inl (v.2.1,true)
 |none=>(.inr ():Sum sc Unit))
 | [],i=>rfl
 |x::r,i=>by
  rw[fD];unfold nR;rw[dn];cases hx:decide (x.1=no) with
  |true=>rfl
  |false=>exact Pw no r (i+1)
theorem aj3(m:fL)(no:Int)(h:m.2.1.length<=1000000):xh m no=some (match nR m.2.1 no with
 |some v=>(v.2.1,true)
 |none=>(bs [],false)):=by
 unfold xh WJ;dsimp only;have:=jJ wK m.2.1 (by rw[zh];omega) (λi (x:eH) (s:Unit) K=>bif decide (x.1=no) then some (Sum.inl (x.2.1,true)) else K s) (λ_=>some (Sum.inr ())) (λk i s=>Tl k no m.2.1 (m.2.1.length:Int) i) (λk i s=>rfl) ();rw[this,Pw];cases nR m.2.1 no<;>rfl
def qI(s:dt)(e:Int):af:=match nR s.2.2.2.1 e with
 |some c=>c.2.1
 |none=>match nR s.2.2.2.1 0 with
  |some c=>c.2.1
  |none=>bs []
theorem zy3(s:dt)(e:Int)(q:List Int)(n i0:Int):∀(l:List eH) (i:Int),fD (λi (x:eH) (u:Unit) K=>bif decide (x.1=e) then some (Sum.inl (x.2.1,q,n,i0,s)) else K u) (λ_=>some (Sum.inr (q,n,i0,s))) l i ()=some (match nR l e with
 |some v=> .inl (v.2.1,q,n,i0,s)
 |none=>(.inr (q,n,i0,s):Sum (af×List Int×Int×Int×dt) (List Int×Int×Int×dt)))
 | [],i=>rfl
 |x::r,i=>by
  rw[fD];unfold nR;rw[dn];cases hx:decide (x.1=e) with
  |true=>rfl
  |false=>exact zy3 s e q n i0 r (i+1)
theorem alB(s:dt)(hs:s.2.2.2.1.length<=1000000)(e:Int)(q:List Int)(n i0:Int):Ln bG e q n i0 s.2.2.2.1 (s.2.2.2.1.length:Int) 0 s=some (match nR s.2.2.2.1 e with
 |some v=> .inl (v.2.1,q,n,i0,s)
 |none=>(.inr (q,n,i0,s):Sum (af×List Int×Int×Int×dt) (List Int×Int×Int×dt))):=by
 rw[<-zy3 s e q n i0 s.2.2.2.1 0];exact jJ wK s.2.2.2.1 (by rw[zh];omega) (λi (x:eH) (u:Unit) K=>bif decide (x.1=e) then some (Sum.inl (x.2.1,q,n,i0,s)) else K u) (λ_=>some (Sum.inr (q,n,i0,s))) (λk i u=>Ln k e q n i0 s.2.2.2.1 (s.2.2.2.1.length:Int) i s) (λk i u=>rfl) ()
theorem ajX(s:dt)(hs:s.2.2.2.1.length<=1000000)(e:Int):Bw s e=some (qI s e):=by
 obtain⟨k,hk⟩:=Z5;have h1:=alB s hs;unfold Bw Xa qI;dsimp only;rw[show(ag [e,(0:Int)]:Int)=2 from rfl];have step:∀(K i:Nat) (x:Int),i<2->ah [e,(0:Int)] i 0=x->Hw (K+1) [e,0] 2 (i:Int) s=match nR s.2.2.2.1 x with
  |some v=>some (.inr v.2.1)
  |none=>Hw K [e,0] 2 ((i+1:Nat):Int) s:=by
  intro K i x hi hx
  conv=>lhs;unfold Hw Tu
  rw[zT (by omega),zC,show(ag [e,(0:Int)])=2 from rfl,zi hi,ar,hx];dsimp only;rw[h1,zc];cases nR s.2.2.2.1 x with
  |some v=>rfl
  |none=>dsimp only;rw[cj];unfold Xb;dsimp only;rw[zu (by omega)]
 have s0:=step (k+1+1) 0 e (by decide) rfl;have s1:=step (k+1) 1 0 (by decide) rfl;rw[show((0:Nat):Int)=0 from rfl] at s0;rw[hk,s0];cases nR s.2.2.2.1 e with
 |some v=>rfl
 |none=>
  dsimp only;rw[s1];cases nR s.2.2.2.1 0 with
  |some v=>rfl
  |none=>dsimp only;unfold Hw Tu;rw[zF (by decide)];rfl
def oC(l:List eH):List Int->fL->fL
 | [],o=>o
 |no::r,o=>oC l r (match nR l no with
  |some v=>nv o no v.2.1
  |none=>o)
def A8(s:dt)(m:fL)(e:Int):fL:=nv (oC m.2.1 s.2.2.1 (mc m.1,[],())) 39 (qI s e)
def JD(s:dt)(m:fL)(f:gh):fL×Bool:=if mM m.1=true then(A8 s m f.1,true) else(mj,false)
theorem zoq(m:fL)(no:Int)(t:af):(nv m no t).2.1.length<=m.2.1.length+1:=VL m no t
theorem zgn(l:List eH):∀(e:List Int) (o:fL),(oC l e o).2.1.length<=o.2.1.length+e.length
 | [],o=>aZ _
 |no::r,o=>by
  rw[oC,aB];have h:=zgn l r (match nR l no with
   |some v=>nv o no v.2.1
   |none=>o)
  cases hx:nR l no with
  |some v=>rw[hx] at h;have:=zoq o no v.2.1;dsimp only at h⊢;omega
  |none=>rw[hx] at h;dsimp only at h⊢;omega
theorem zgp{ρ:Type}(m:fL)(hm:m.2.1.length<=1000000)(fin:fL->ae ρ):∀(l:List Int) (i:Int) (o:fL),o.2.1.length+l.length<=1000000->
 fD (λi (x:Int) (o:fL) K=>(xh m x).bind λr2=>(bif r2.2 then((qD o x r2.1).bind λr3=>K r3) else K o)) fin l i o=fin (oC m.2.1 l o)
 | [],i,o,_=>rfl
 |x::r,i,o,h=>by
  rw[aB] at h;rw[fD,aj3 m x hm,zc,oC];cases hx:nR m.2.1 x with
  |some v=>have:=zoq o x v.2.1;dsimp only;rw[zC,VN o x _ (by omega),zc];exact zgp m hm fin r (i+1) _ (by omega)
  |none=>exact zgp m hm fin r (i+1) o (by omega)
theorem ag8(s:dt)(m:fL)(f:gh)(hs:lO s)(he:s.2.2.1.length<=300)(hm:nf m):Bu s m f=some (JD s m f):=by
 have Ix:=hm.len;unfold Bu WZ JD;rw[acn m.1 (by rw[zh];exact hm.CD),zc];cases hr:mM m.1 with
 |false=>rfl
 |true=>rw[if_pos rfl,if_pos rfl,ai,zD];dsimp only;have hl:=jJ (0:Int) s.2.2.1 (by rw[zh];omega) (λi (x:Int) (o:fL) K=>(xh m x).bind λr2=>(bif r2.2 then((qD o x r2.1).bind λr3=>K r3) else K o)) (λo=>some (s,f,mj,o)) (λk i o=>Tr k s.2.2.1 (s.2.2.1.length:Int) i s m f mj o) (λk i o=>rfl) (mc m.1,[],());have hb:=zgn m.2.1 s.2.2.1 (mc m.1,[],());rw[hl,zgp m (by omega) _ _ _ _ (by simp;omega),zc];unfold W0;dsimp only at hb⊢;rw[ajX s hs.pX,zc,VN _ _ _ (by rw[cM] at hb;omega),zc];rfl
theorem zrd{a:Spec}:∀{l:List eH} {prev:List Int} {i:Int},n0 a prev l i=none->∀c∈l,eS a c.2.1=0
 | [],_,_,_,c,hc=>by cases hc
 |x::r,prev,i,h,c,AO=>by
  rw[n0] at h;by_cases hc:qH a prev x=0
  ·rw[zT hc,zC] at h;rcases aD.1 AO with rfl|AO
   ·unfold qH at hc;cases h1:decide (c.1<0) with
    |true=>rw[h1] at hc;cases hc
    |false=>
     rw[h1,zD] at hc;cases h2:decide (16<c.1) with
     |true=>rw[h2] at hc;cases hc
     |false=>
      rw[h2,zD] at hc;cases h3:decide (c.1∈prev) with
      |true=>rw[h3] at hc;cases hc
      |false=>rw[h3,zD] at hc;exact hc
   ·exact zrd h c AO
  ·rw[zF hc] at h;cases h
structure BT(s:dt):Prop where
 qv:(qx s.1).1=0
 act:eK s.1 39=true
 pX:∀c∈s.2.2.2.1,eS (cV s.1 39) c.2.1=0
 zero:(0:Int)∈s.2.2.2.1.map λc=>c.1
theorem P1{s:dt}(h:(oN s).1=0):BT s:=by
 unfold oN at h;by_cases h1:(qx s.1).1=0
 case neg=>rw[zF h1] at h;cases h
 rw[zT h1,ai,zD] at h;cases h2:eK s.1 39 with
 |false=>rw[h2] at h;cases h
 |true=>
  rw[h2,ai,zD] at h;have ne:∀{l:List Int} {prev:List Int} {i:Int} {e:Int×Int},pd s.1 prev l i=some e->e.1≠0:=by
   intro l
   induction l with
   |nil=>intro _ _ _ h;cases h
   |cons x r ih=>
    intro prev i e h;rw[pd] at h;by_cases hc:sX s.1 prev x=0
    ·rw[zT hc,zC] at h;exact ih h
    ·rw[zF hc,zD] at h;cases h;exact hc
  have nc:∀{l:List eH} {prev:List Int} {i:Int} {e:Int×Int},n0 (cV s.1 39) prev l i=some e->e.1≠0:=by
   intro l
   induction l with
   |nil=>intro _ _ _ h;cases h
   |cons x r ih=>
    intro prev i e h;rw[n0] at h;by_cases hc:qH (cV s.1 39) prev x=0
    ·rw[zT hc,zC] at h;exact ih h
    ·rw[zF hc,zD] at h;cases h;exact hc
  cases h3:pd s.1 [] s.2.2.1 0 with
  |some e=>rw[h3] at h;exact absurd h (ne h3)
  |none=>
   rw[h3] at h;dsimp only at h;cases h4:n0 (cV s.1 39) [] s.2.2.2.1 0 with
   |some e=>rw[h4] at h;exact absurd h (nc h4)
   |none=>
    rw[h4] at h;dsimp only at h;by_cases h5:(0:Int)∈s.2.2.2.1.map λc=>c.1
    ·exact⟨h1,h2,zrd h4,h5⟩
    ·rw[zF h5] at h;cases h
theorem aiC{s:dt}(h:BT s)(e:Int):eS (cV s.1 39) (qI s e)=0:=by
 unfold qI;cases h1:nR s.2.2.2.1 e with
 |some c=>exact h.pX c (cu h1)
 |none=>
  cases h2:nR s.2.2.2.1 0 with
  |some c=>exact h.pX c (cu h2)
  |none=>obtain⟨c,hc,h0⟩:=bm.1 h.zero;have:=List.find?_eq_none.1 h2 c hc;exact absurd (zT h0) this
theorem zyh(l:List eH):∀(e:List Int) (o:fL) (v:eH),v∈(oC l e o).2.1->v∈o.2.1\/v∈l
 | [],o,v,h=> .inl h
 |no::r,o,v,h=>by
  rw[oC] at h;rcases zyh l r _ v h with h|h
  ·cases hx:nR l no with
   |none=>rw[hx] at h;exact .inl h
   |some w=>
    rw[hx] at h;rcases(VM o no w.2.1 v).1 h with e|⟨h,_⟩
    ·have hw:=List.find?_some hx;have hw:w.1=no:=by simpa using hw
     right;rw[e,<-hw];exact cu hx
    ·exact .inl h
  ·exact .inr h
theorem zgo(l:List eH):∀(e:List Int) (o:fL),sB o.2.1->sB (oC l e o).2.1/\(oC l e o).1=o.1
 | [],o,h=>⟨h,rfl⟩
 |no::r,o,h=>by
  rw[oC];cases hx:nR l no with
  |none=>exact zgo l r o h
  |some w=>obtain⟨h1,h2⟩:=zgo l r (nv o no w.2.1) (zhv h no w.2.1);exact⟨h1,h2⟩
structure Part(s:zf)(m:fL):Prop where
 head:oR m.1=true->pG m.1=s.2.1
 CD:m.1.size<=1000
 len:m.2.1.length<=200
 qk:∀v∈m.2.1,eK s v.1=true/\eS (cV s v.1) v.2.1=0/\v.2.1.size<=999
theorem Part.ok{s:zf}{m:fL}(h:Part s m):nf m:=⟨by have:=h.CD;omega,by have:=h.len;omega,λv hv=>by have:=(h.qk v hv).2.2;omega⟩
theorem Pj{s:dt}(hk:BT s)(ho:lO s)(he:s.2.2.1.length<=300){m:fL}(hm:Part s.1 m)(e:Int)(hr:mM m.1=true):pK s.1 (A8 s m e)/\pV (A8 s m e)/\mM (A8 s m e).1=false:=by
 obtain⟨r1,r2,r3⟩:=alZ hr;obtain⟨b1,b2⟩:=zgo m.2.1 s.2.2.1 (mc m.1,[],()) eW;have ED:(A8 s m e).1=mc m.1:=b2;have ok:=(C8 s.1).1 hk.qv;have hc:=aiC hk e;have nB:(qI s e).size<=1099511627776:=by
  unfold qI;split
  ·rename_i c h;exact ho.yS c (cu h)
  ·split
   ·rename_i c h;exact ho.yS c (cu h)
   ·exact bS _
 have hf:∀v∈(A8 s m e).2.1,eK s.1 v.1=true/\eS (cV s.1 v.1) v.2.1=0/\v.2.1.size<=999:=λv hv=>by
  rcases(VM _ _ _ v).1 hv with rfl|⟨hv,_⟩
  ·obtain⟨v1,v2,v3,_,_⟩:=(Hs _ _ nB).1 hc;have:=LC v1;exact⟨hk.act,hc,by dsimp only;omega⟩
  ·rcases zyh _ _ _ v hv with hv|hv
   ·cases hv
   ·exact hm.qk v hv
 have Cp:sB (A8 s m e).2.1:=zhv b1 39 (qI s e);refine⟨⟨hk.qv,by rw[ED];exact r1,by rw[ED,r2];exact hm.head (VI hr).1,Ff.2 ⟨λv hv=>⟨(hf v hv).1,(hf v hv).2.1⟩,Cp,λv hv=>by have:=zxd ok (hf v hv).1;omega⟩⟩,⟨by rw[ED];have:=(xV.1 r1).1;omega,?_,λv hv=>by have:=(hf v hv).2.2;omega⟩,by rw[ED];exact r3⟩;have h1:=zgn m.2.1 s.2.2.1 (mc m.1,[],());have h2:=zoq (oC m.2.1 s.2.2.1 (mc m.1,[],())) 39 (qI s e);unfold A8;dsimp only[cM] at h1;omega
theorem zy9(s:zf)(b:af)(hb:b.size<=1099511627776):∀(r:List Int) (a:Nat) (o:List eH),(∀v∈o,eK s v.1=true/\eS (cV s v.1) v.2.1=0/\v.2.1.size<=999)->(∀v∈(oL s b r a o).1,eK s v.1=true/\eS (cV s v.1) v.2.1=0/\v.2.1.size<=999)/\(oL s b r a o).1.length<=o.length+r.length
 | [],a,o,h=>⟨h,aZ _⟩
 |no::r,a,o,h=>by
  rw[oL];split
  ·exact⟨h,Nat.le_add_right _ _⟩
  ·rename_i hf;have hf:eK s no=true:=by cases hh:eK s no with
    |true=>rfl
    |false=>exact absurd hh hf
   split
   ·exact⟨h,Nat.le_add_right _ _⟩
   ·rename_i hz;generalize hg:wP s.1 (cV s no) b (a:Int)=g at hz⊢;obtain⟨t,z,e⟩:=g;dsimp only at hz⊢;have he:e=0:=dy λhn=>hz hn;subst he;obtain⟨c1,c2,c3,c4,c5,c6⟩:=zcy hb hg;have h2:∀v∈o++ [((no,t,()):eH)],eK s v.1=true/\eS (cV s v.1) v.2.1=0/\v.2.1.size<=999:=λv hv=>by
     rcases aT.1 hv with hv|hv
     ·exact h v hv
     ·rw[List.mem_singleton.1 hv];exact⟨hf,c2,c5⟩
    obtain⟨i1,i2⟩:=zy9 s b hb r z.toNat _ h2;rw[aF,cr] at i2;exact⟨i1,by rw[aB];omega⟩
theorem G6(s:zf):Part s mj:=⟨λh=>(by cases h),bS _,bS _,λv hv=>(by cases hv)⟩
theorem Pn(s:zf)(b:af)(hb:b.size<=1099511627776):Part s (mV s b).1:=by
 unfold mV;split
 ·exact G6 s
 cases ht:sn s b with
 |inl e=>exact G6 s
 |inr q=>
  unfold sn at ht;split at ht
  ·cases ht
  split at ht
  case isFalse=>cases ht
  rename_i hr;injection ht with ht
  subst ht;have h4:=(xV.1 hr.1).1;show Part s (uR s b (pF s.1 b) _).1;unfold uR;split
  ·exact⟨λ_=>hr.2,by dsimp only;omega,bS _,λv hv=>by cases hv⟩
  ·obtain⟨p1,p2⟩:=zy9 s b hb (elems (jo s.1 b (nU s.1)).1 (jo s.1 b (nU s.1)).2.1) (jo s.1 b (nU s.1)).2.2.1.toNat [] (λv hv=>by cases hv);have:=VT (jo s.1 b (nU s.1)).1 (jo s.1 b (nU s.1)).2.1;rw[cM] at p2;exact⟨λ_=>hr.2,by dsimp only;omega,by dsimp only;omega,p1⟩
def pM(p:dt)(n:Int)(m:fL)(f:gh):Int×af:=
 if mM m.1=true then(if n<((mg p.1 (A8 p m f.1)).size:Int) then(3,bs []) else(2,mg p.1 (A8 p m f.1))) else(3,bs [])
def xN(p q:dt)(n:Int)(m:fL)(t:fL×gh):Int×af:=
 if¬t.2.1=0 then pM p n m t.2 else if n<((mg q.1 t.1).size:Int) then pM p n m (5,129,()) else(1,mg q.1 t.1)
def xM(p q:dt)(n:Int)(d:fL×gh):Int×af:=if¬d.2.1=0 then pM p n d.1 d.2 else xN p q n d.1 (vi p.2.1 p.1 q.1 d.1)
def mX(p q:dt)(n:Int)(b:af):Int×af:=xM p q n (mV p.1 b)
structure xc(p q:dt)(n:Int):Prop where
 n1:1<=n
 n2:n<=65535
 rp:(oN p).1=0
 rq:(oN q).1=0
 mp:(mi p.2.1 p.1 q.1).1=0
 mq:(mi q.2.1 q.1 p.1).1=0
theorem xc.symm{p q:dt}{n:Int}(h:xc p q n):xc q p n:=⟨h.n1,h.n2,h.rq,h.rp,h.mq,h.mp⟩
theorem jG.symm{p q:dt}(h:jG p q):jG q p:=⟨h.sq,h.sp,h.qm,h.pm,h.OJ,h.OI,h.qe,h.pe,h.qml,h.pml,h.abE,h.abD⟩
theorem AZ{p q:dt}{n:Int}:(nZ p q n).1=0↔xc p q n:=by
 unfold nZ;by_cases h1:n<1
 ·rw[zT h1];exact⟨λh=>(by cases h),λh=>by have:=h.n1;omega⟩
 by_cases h2:65535<n
 ·rw[zF h1,zT h2];exact⟨λh=>(by cases h),λh=>by have:=h.n2;omega⟩
 rw[zF h1,zF h2,zD,zD];by_cases h3:(oN p).1=0
 case neg=>rw[zF h3];exact⟨λh=>absurd h h3,λh=>absurd h.rp h3⟩
 rw[zT h3,ai,zD];by_cases h4:(mi p.2.1 p.1 q.1).1=0
 case neg=>rw[zF h4];exact⟨λh=>absurd h h4,λh=>absurd h.mp h4⟩
 rw[zT h4,ai,zD];by_cases h5:(oN q).1=0
 case neg=>rw[zF h5];exact⟨λh=>absurd h h5,λh=>absurd h.rq h5⟩
 rw[zT h5,ai,zD];by_cases h6:(mi q.2.1 q.1 p.1).1=0
 case neg=>rw[zF h6];exact⟨λh=>absurd h h6,λh=>absurd h.mq h6⟩
 rw[zT h6];exact⟨λ_=>⟨by omega,by omega,h3,h5,h4,h6⟩,λ_=>rfl⟩
theorem zo6{s:zf}{m:fL}(h:pK s m):2<=(mg s m).size:=by
 have ho:=(C8 s).1 h.qv;have:=(zzz (s:=s) ho.1 (m:=m.1) (y:=bs []) h.right).2;have hz:2<=nU s.1:=by unfold nU;split<;>omega
 unfold mg;rw[ss,ss];omega
theorem RA{s:zf}{m:fL}(h:pK s m):yT s m=(mg s m,pT):=by unfold yT;rw[if_pos (S0.2 h)]
theorem zzw{p q:dt}(h:jG p q){m:fL}(hm:nf m)(ht:(vi p.2.1 p.1 q.1 m).2.1=0):pK q.1 (vi p.2.1 p.1 q.1 m).1/\nf (vi p.2.1 p.1 q.1 m).1:=by
 rcases zan p.2.1 p.1 q.1 m with⟨f,hf,e⟩|⟨ys,hd,e⟩
 ·rw[e] at ht;exact absurd ht hf
 ·rw[e];exact⟨hd.out h.pm hm,hd.ok h.pm hm⟩
section
variable {p q:dt} {n:Int} (h:jG p q) (h0:xc p q n)
include h h0
theorem zxe{m:fL}(hm:Part p.1 m)(f:gh)(cl:List dt):tH m f p (cl,n,())=some (pM p n m f):=by
 unfold tH Xi pM;rw[ag8 p m f h.sp h.pe hm.ok,zc];unfold JD;cases hr:mM m.1 with
 |false=>rfl
 |true=>
  obtain⟨b1,b2,_⟩:=Pj (P1 h0.rp) h.sp h.pe hm f.1 hr;have hp:=zo6 b1;rw[if_pos rfl,if_pos rfl];dsimp only;rw[ai,zD,zxq p.1 _ h.sp.qv b2.ok,zc,RA b1];dsimp only;rw[zF (λe=>by rw[e] at hp;exact absurd hp (by decide)),zD];by_cases hn:n<((mg p.1 (A8 p m f.1)).size:Int)
  ·rw[zT hn,if_pos hn];rfl
  ·rw[zF hn,if_neg hn];rfl
theorem Sr(b:af)(hb:b.size<=1099511627776)(cl:List dt):((xn p.1 b).bind λr2=>(bif(!(decide (r2.2.1=(0:Int)))) then((tH r2.1 r2.2 p (cl,n,())).bind λr3=>some (r3.1,r3.2)) else((zN p.2.1 p.1 q.1 r2.1).bind λr4=>(bif(!(decide (r4.2.1=(0:Int)))) then((tH r2.1 r4.2 p (cl,n,())).bind λr5=>some (r5.1,r5.2)) else((vI q.1 r4.1).bind λr6=>(bif(decide (n<((r6.1).size:Int))) then((tH r2.1 ((5:Int),(129:Int),()) p (cl,n,())).bind λr7=>some (r7.1,r7.2)) else some ((1:Int),r6.1)))))))=some (mX p q n b):=by
 have tC:=Pn p.1 b hb;have pk:=tC.ok;rw[adZ p.1 b h.sp.qv hb,zc];unfold mX xM;by_cases hd:(mV p.1 b).2.1=0
 case neg=>rw[zF hd,aY,zC,if_pos hd,zxe h h0 tC,zc]
 rw[zT hd,ai,zD,if_neg (λe=>e hd),abV p.2.1 p.1 q.1 _ h.pm (by have:=h.pml;omega) pk (by have:=tC.len;omega) h.sp.qv h.sq.qv,zc];unfold xN;by_cases ht:(vi p.2.1 p.1 q.1 (mV p.1 b).1).2.1=0
 case neg=>rw[zF ht,aY,zC,if_pos ht,zxe h h0 tC,zc]
 obtain⟨t1,t2⟩:=zzw h pk ht;rw[zT ht,ai,zD,if_neg (λe=>e ht),zxq q.1 _ h.sq.qv t2,zc,RA t1];dsimp only;by_cases hn:n<((mg q.1 (vi p.2.1 p.1 q.1 (mV p.1 b).1).1).size:Int)
 ·rw[zT hn,zC,if_pos hn,zxe h h0 tC,zc]
 ·rw[zF hn,zD,if_neg hn]
end
def iq(p q:dt)(n link:Int)(b:af):Int×af:=
 if¬(nZ p q n).1=0 then(0,bs []) else if link=0 then mX p q n b else if link=1 then mX q p n b else(0,bs [])
theorem acY(p q:dt)(n link:Int)(b:af)(h:jG p q)(hb:b.size<=1099511627776):xk ([p,q],n,()) link b=some (iq p q n link b):=by
 unfold xk Xh iq;rw[zdj p q n h,zc];by_cases hc:(nZ p q n).1=0
 case neg=>rw[zF hc,if_pos hc];rfl
 have h0:=AZ.1 hc;rw[zT hc,ai,zD,if_neg (λe=>e hc)];by_cases l0:link=0
 ·subst l0;rw[if_pos rfl,zF (by decide),zD,zF (by decide),zD];simp only[Fa,Fb,I0,UE,UF];exact Sr h h0 b hb [p,q]
 ·rw[if_neg l0];by_cases l1:link=1
  ·subst l1;rw[if_pos rfl,zF (by decide),zD,zF (by decide),zD];simp only[Fa,Fb,I1,UE,UF];exact Sr h.symm h0.symm b hb [p,q]
  ·rw[if_neg l1];by_cases l2:link<0
   ·rw[zT l2];rfl
   ·rw[zF l2,zD,zT (by omega)];rfl
theorem ac2(p q:dt)(n:Int)(h:jG p q):Dr ([p,q],n,())=some (decide ((nZ p q n).1=0)):=by unfold Dr QE;rw[acV p q n h,zc]
end eD

namespace eD
open Go.IntKind renaming wrap->zW,i64->zI,u8->zU
open Go Go.Ref
theorem RC(m:Int):Mf m=some (if m<1\/65535<m then .inl 5 else .inr (0,(m,false,[],()))):=by
 unfold Mf ZM;by_cases h1:m<1
 ·simp [h1]
 ·by_cases h2:65535<m<;>simp [h1,h2]
def ej(m:Int)(l:List Int):Bool×List Int×List af:=l.foldl (c8 m) (false,[],[])
theorem aiW(m:Int)(l:List Int):∀(d:Bool) (b:List Int) (o:List af),l.foldl (c8 m) (d,b,o)=((l.foldl (c8 m) (d,b,[])).1,(l.foldl (c8 m) (d,b,[])).2.1,o++(l.foldl (c8 m) (d,b,[])).2.2):=by
 induction l with
 |nil=>intro d b o;simp
 |cons c r ih=>
  intro d b o;rw[cm,cm];have h:c8 m (d,b,o) c=((c8 m (d,b,[]) c).1,(c8 m (d,b,[]) c).2.1,o++(c8 m (d,b,[]) c).2.2):=by
   unfold c8;simp only;split
   ·simp
   ·split
    ·simp
    ·split<;>simp
  rw[h,ih];generalize c8 m (d,b,[]) c=st;obtain⟨d',b',o'⟩:=st;rw[ih d' b' o'];simp
theorem afY(m:Int)(n:Nat)(r:List Int):∀(w:List Int) (o:List af),2<=w.length->mY w=n->w.length<2+n->
 r.foldl (c8 m) (false,w,o)=if r.length<2+n-w.length then(false,w++r,o) else(r.drop (2+n-w.length)).foldl (c8 m) (false,[],o++ [strOf ((w++r.take (2+n-w.length)).drop 2)]):=by
 induction r with
 |nil=>intro w o h1 h2 h3;simp;omega
 |cons c r ih=>
  intro w o h1 h2 h3;rw[cm];have lL:mY (w++ [c])=n:=by
   rw[<-h2];unfold mY;rw[if_neg (by simp;omega),if_neg (by omega)];have e:∀i,i<w.length->(w++ [c]).getD i 0=w.getD i 0:=λi hi=>by rw[al,bj hi,al]
   rw[e 0 (by omega),e 1 (by omega)]
  have hlen:(w++ [c]).length=w.length+1:=by simp
  have hf:c8 m (false,w,o) c=if w.length+1=2+n then(false,[],o++ [strOf ((w++ [c]).drop 2)]) else(false,w++ [c],o):=by
   unfold c8;simp only[lL,hlen];rw[if_neg (by simp),if_neg (by omega)];by_cases e:w.length+1=2+n
   ·rw[if_pos e,if_pos ⟨by omega,by omega⟩]
   ·rw[if_neg e,if_neg (by omega)]
  rw[hf];by_cases e:w.length+1=2+n
  ·rw[if_pos e,if_neg (by simp;omega)];have:2+n-w.length=1:=by omega
   rw[this];simp
  ·rw[if_neg e,ih (w++ [c]) o (by simp;omega) lL (by simp;omega),hlen];have e2:2+n-w.length=(2+n-(w.length+1))+1:=by omega
   rw[e2];by_cases e3:r.length<2+n-(w.length+1)
   ·rw[if_pos e3,if_pos (by simp;omega)];simp
   ·rw[if_neg e3,if_neg (by simp;omega)];simp
theorem z131(m:Int):∀(n:Nat) (l:List Int) (pos:Int) (o:List af),l.length<=n->0<=pos->(∀x∈l,zl x)->
 l.foldl (c8 m) (false,[],o)=(decide (0<=(od m pos l).2.2.2),(od m pos l).2.1,o++(od m pos l).1):=by
 intro n
 induction n using Nat.strongRecOn with
 |_ n ih=>
 intro l pos o hn hp hb;rw[od];by_cases c0:l.length<2
 ·rw[dif_pos c0]
  match l,c0 with
  | [],_=>simp
  | [x],_=>simp [c8,mY]
 rw[dif_neg c0]
 match l,c0 with
 | [],c0=>exact absurd (by simp) c0
 | [x],c0=>exact absurd (by simp) c0
 |x::y::r,c0=>
  have hz:=VK hb;have GR:mY [x,y]=mY (x::y::r):=by unfold mY;rw[if_neg (by simp),if_neg (by simp)];rfl
  have h1:c8 m (false,[],o) x=(false,[x],o):=by simp [c8,mY]
  rw[cm,cm,h1];have h2:c8 m (false,[x],o) y=if mY (x::y::r)=0\/m<mY (x::y::r) then(true,[],o) else(false,[x,y],o):=by
   unfold c8;have e1:([x]:List Int)++ [y]=[x,y]:=rfl;simp only[e1,GR];rw[if_neg (by simp)];by_cases c1:mY (x::y::r)=0\/m<mY (x::y::r)
   ·rw[if_pos ⟨rfl,c1⟩,if_pos c1]
   ·rw[if_neg (λh=>c1 h.2),if_neg c1,if_neg];intro h;have:(([x,y]:List Int).length:Int)=2:=rfl;omega
  rw[h2];by_cases c1:mY (x::y::r)=0\/m<mY (x::y::r)
  ·rw[if_pos c1,if_pos c1,Ld];have:(0:Int)<=pos+2:=by omega
   simp [this]
  ·rw[if_neg c1,if_neg c1];generalize hzz:mY (x::y::r)=z at*;have II:0<z:=by omega
   rw[afY m z.toNat r [x,y] o (by simp) (by rw[GR];omega) (by simp;omega)];have e0:2+z.toNat-([x,y]:List Int).length=z.toNat:=by simp
   rw[e0];by_cases c3:((x::y::r).length:Int)-2<z
   ·rw[if_pos c3,if_pos (by simp at c3;omega)];simp
   ·rw[if_neg c3,if_neg (by simp at c3;omega)];have hd:(x::y::r).drop (2+z.toNat)=r.drop z.toNat:=by rw[Nat.add_comm];rfl
    have ht:((x::y::r).drop 2).take z.toNat=r.take z.toNat:=rfl;have ht2:([x,y]++r.take z.toNat).drop 2=r.take z.toNat:=rfl;rw[hd,ht,ht2];rw[ih (n-2) (by simp at hn;omega) (r.drop z.toNat) (pos+2+z) _ (by simp at hn⊢;omega) (by omega) (λx hx=>hb x (by simp;exact .inr (.inr (List.mem_of_mem_drop hx))))];simp
theorem ajG(m:Int)(l:List Int)(hb:∀x∈l,zl x):ej m l=(decide (0<=(od m 0 l).2.2.2),(od m 0 l).2.1,(od m 0 l).1):=by unfold ej;rw[z131 m l.length l 0 [] (aZ _) (by omega) hb];simp
theorem zak(m:Int)(a b:List Int):ej m (a++b)=((b.foldl (c8 m) ((ej m a).1,(ej m a).2.1,[])).1,(b.foldl (c8 m) ((ej m a).1,(ej m a).2.1,[])).2.1,(ej m a).2.2++(b.foldl (c8 m) ((ej m a).1,(ej m a).2.1,[])).2.2):=by unfold ej;rw[dM];generalize a.foldl (c8 m) (false,[],[])=st;obtain⟨d,c,o⟩:=st;rw[aiW]
def mI(m:Int)(l:List Int):Fr:=(m,(ej m l).1,(ej m l).2.1,())
theorem afV(m:Int)(a b:List Int):feed (mI m a) b=((b.foldl (c8 m) ((ej m a).1,(ej m a).2.1,[])).2.2,decide ((ej m (a++b)).1=true/\(ej m a).1=false),mI m (a++b)):=by unfold feed mI;rw[zak]
theorem zrq(m:Int)(st:Bool×List Int×List af)(c:Int)(hc:zl c)(h:(∀x∈st.2.1,zl x)):∀x∈(c8 m st c).2.1,zl x:=by
 unfold c8;split
 ·exact h
 ·split
  ·simp
  ·split
   ·simp
   ·intro x hx;rcases aT.1 hx with hx|hx
    ·exact h x hx
    ·simp at hx;subst hx;exact hc
theorem afX(m:Int)(l:List Int):∀(st:Bool×List Int×List af),(∀x∈l,zl x)->(∀x∈st.2.1,zl x)->∀x∈(l.foldl (c8 m) st).2.1,zl x:=by
 induction l with
 |nil=>intro st _ h;exact h
 |cons c r ih=>intro st hl h;exact ih _ (λx hx=>hl x (by simp [hx])) (zrq m st c (hl c (by simp)) h)
theorem agE(m:Int)(l:List Int)(h:∀x∈l,zl x):∀x∈(ej m l).2.1,zl x:=afX m l _ h (by simp)
theorem VU(m:Int)(l:List Int):∀(st:Bool×List Int×List af),(l.foldl (c8 m) st).2.1.length<=st.2.1.length+l.length/\(l.foldl (c8 m) st).2.2.length<=st.2.2.length+l.length:=by
 induction l with
 |nil=>intro st;simp
 |cons c r ih=>
  intro st;have h:(c8 m st c).2.1.length<=st.2.1.length+1/\(c8 m st c).2.2.length<=st.2.2.length+1:=by
   unfold c8;split
   ·omega
   ·split
    ·simp
    ·split<;>simp
  have:=ih (c8 m st c);simp only[cm,aB];omega
theorem zoi(m:Int)(l:List Int):(ej m l).2.1.length<=l.length/\(ej m l).2.2.length<=l.length:=by have:=VU m l (false,[],[]);simpa [ej] using this
theorem ab7(m:Int)(a:List Int)(s:af)(ha:∀x∈a,zl x)(h:a.length+s.size<=4398046511104):HZ (mI m a) s=some (((bl s).foldl (c8 m) ((ej m a).1,(ej m a).2.1,[])).2.2,decide ((ej m (a++bl s)).1=true/\(ej m a).1=false),mI m (a++bl s)):=by rw[alI _ _ (agE m a ha) (by have:=(zoi m a).1;simp only[mI];omega),afV]
def sizes(l:List af):Nat:=(l.map ByteArray.size).sum
theorem ab9(most:Int)(h0:0<=most)(h1:most<=1000000)(l:List af)(hl:l.length<=maxLen):∀(n j k:Nat) (c:Nat),j+n=l.length->n<k->c<=9223372036854775807->
 ∃b,(J6 k l most c j).bind (λe=>Sum.elim (λwe=>Wg we.1 we.2.1 we.2.2 (λa0=>some a0)) (λwe=>Wh we.1 we.2 (λa0=>some a0)) e)=some b/\(b=false->((c+sizes (l.drop j):Nat):Int)<=most):=by
 intro n;rw[zh] at hl
 induction n with
 |zero=>
  intro j k c hj hk hc;obtain⟨k,rfl⟩:∃k',k=k'+1:=⟨k-1,by omega⟩
  rw[J6,Tc,zF (by omega),aK (by omega)];refine⟨decide (most<(c:Int)),rfl,λh=> ?_⟩;simp [sizes] at h⊢;omega
 |succ n ih=>
  intro j k c hj hk hc;obtain⟨k,rfl⟩:∃k',k=k'+1:=⟨k-1,by omega⟩
  have bR:j<l.length:=by omega
  rw[J6,Tc,zT (by omega),zC,zi bR];have hx:l.getD ((j:Int)).toNat (bs [])=l[j]:=by rw[ar,al,av bR];rfl
  rw[hx];by_cases c1:most<(c:Int)
  ·exact⟨true,by rw[zT c1];rfl,λh=>by cases h⟩
  rw[zF c1,zD];by_cases c2:most<((l[j]).size:Int)
  ·exact⟨true,by rw[zT c2];rfl,λh=>by cases h⟩
  rw[zF c2,zD,zi bR,zu (by omega),zj (by omega) (by omega)];obtain⟨b,h1,h2⟩:=ih (j+1) k (c+(l[j]).size) (by omega) (by omega) (by omega);rw[show(((c:Int))+((l[j]).size:Int))=((c+(l[j]).size:Nat):Int) by omega];refine⟨b,h1,λhb=> ?_⟩;have:=h2 hb;rw[aO bR];simp only[sizes,bd,lY] at this⊢;omega
theorem alL(l:List af)(most:Int)(h0:0<=most)(h1:most<=1000000)(hl:l.length<=maxLen):∃b,Du l most=some b/\(b=false->((l.length+sizes l:Nat):Int)<=most):=by have:=ab9 most h0 h1 l hl l.length 0 bG l.length (by omega) (by rw[zv];rw[zh] at hl;omega) (by rw[zh] at hl;omega);rw[aN] at this;exact this
theorem zgx{l:List af}{j:Nat}(h:j<l.length):l.getD ((j:Int)).toNat (bs [])=l[j]:=by rw[ar,al,av h];rfl
theorem aiX(p:af)(h:p.size<=70000):H0 p=some (if p.size<1\/65535<p.size then(bs [],5) else(strOf [(p.size:Int)/256,(p.size:Int)% 256]++p,0)):=by
 unfold H0 ZN;by_cases h1:p.size<1
 ·rw[zT (by omega),if_pos (.inl h1)];rfl
 rw[zF (by omega),zD];by_cases h2:65535<p.size
 ·rw[zT (by omega),if_pos (.inr h2)];rfl
 rw[zF (by omega),if_neg (by omega),wM,zT (by simp;omega)];have e1:zW zU (Int.fdiv (p.size:Int) (2^min ((8:Int)).toNat 64))=(p.size:Int)/256:=by
  rw[Int.fdiv_eq_ediv_of_nonneg _ (by decide),Uq];have:((2:Int)^min ((8:Int)).toNat 64)=256:=by decide
  rw[this];omega
 have e2:zW zU (p.size:Int)=(p.size:Int)% 256:=Uq _;rw[e1,e2];rfl
theorem acd(p:af)(h:p.size<=70000):xg p=some (if p.size<1\/65535<p.size then bs [] else strOf [(p.size:Int)/256,(p.size:Int)% 256]++p):=by
 unfold xg Wl;by_cases h1:p.size<1
 ·rw[zT (by omega),if_pos (.inl h1)];rfl
 rw[zF (by omega),zD];by_cases h2:65535<p.size
 ·rw[zT (by omega),if_pos (.inr h2)];rfl
 rw[zF (by omega),if_neg (by omega),wM,zT (by simp;omega)];have e1:zW zU (zW zI (Int.tdiv (p.size:Int) (256:Int)))=(p.size:Int)/256:=by rw[Int.tdiv_eq_ediv_of_nonneg (by omega),zj (by omega) (by omega),Uq];omega
 have e2:zW zU (cB (p.size:Int) (256:Int))=(p.size:Int)% 256:=by rw[dS (by omega),Uq];omega
 rw[e1,e2];rfl
theorem O9{e:TypeId}{l:List af}(h:Wf (.sl e .str) l):l.length<=maxLen:=h.1
def Ba(m:Int)(b:List Int):Prop:=b.length<2\/(0<mY b/\mY b<=m/\(b.length:Int)<2+mY b)
theorem P4{b:List Int}{c:Int}(h:2<=b.length):mY (b++ [c])=mY b:=by
 unfold mY;rw[if_neg (by simp;omega),if_neg (by omega)];have e:∀i,i<b.length->(b++ [c]).getD i 0=b.getD i 0:=λi hi=>by rw[al,bj hi,al]
 rw[e 0 (by omega),e 1 (by omega)]
def qC(m:Int)(p:af):Prop:=1<=p.size/\(p.size:Int)<=m
theorem af1(m:Int)(st:Bool×List Int×List af)(c:Int)(hc:zl c)(hb:∀x∈st.2.1,zl x)(hi:Ba m st.2.1)(ho:∀p∈st.2.2,qC m p):Ba m (c8 m st c).2.1/\∀p∈(c8 m st c).2.2,qC m p:=by
 have Ag:∀x∈st.2.1++ [c],zl x:=λx hx=>by
  rcases aT.1 hx with h|h
  ·exact hb x h
  ·simp at h;subst h;exact hc
 have hz:=VK Ag;have hl:(st.2.1++ [c]).length=st.2.1.length+1:=by simp
 unfold c8;split
 ·exact⟨hi,ho⟩
 split
 ·exact⟨.inl (by simp),ho⟩
 split
 ·rename_i h1 h2 h3;refine⟨.inl (by simp),λp hp=> ?_⟩;rcases aT.1 hp with hp|hp
  ·exact ho p hp
  ·simp at hp;subst hp;unfold qC;rw[wM];simp only[bF];have h4:2<=st.2.1.length:=by omega
   have h5:=P4 (c:=c) h4;rcases hi with hi|hi
   ·omega
   ·omega
 ·rename_i h1 h2 h3;refine⟨?_,ho⟩;simp only;unfold Ba;rw[hl];by_cases h4:2<=st.2.1.length
  ·have h5:=P4 (c:=c) h4;rcases hi with hi|hi
   ·omega
   ·right;refine⟨by omega,by omega,?_⟩;by_cases h6:((st.2.1++ [c]).length:Int)=2+mY (st.2.1++ [c])
    ·exact absurd ⟨h6,by omega⟩ h3
    ·omega
  ·by_cases h6:st.2.1.length=1
   ·right;have h7:¬(mY (st.2.1++ [c])=0\/m<mY (st.2.1++ [c])):=λh=>h2 ⟨by omega,h⟩;omega
   ·left;omega
theorem aiV(m:Int)(l:List Int):∀(st:Bool×List Int×List af),(∀x∈l,zl x)->(∀x∈st.2.1,zl x)->Ba m st.2.1->(∀p∈st.2.2,qC m p)->Ba m (l.foldl (c8 m) st).2.1/\∀p∈(l.foldl (c8 m) st).2.2,qC m p:=by
 induction l with
 |nil=>intro st _ _ h1 h2;exact⟨h1,h2⟩
 |cons c r ih=>intro st hl hb h1 h2;have hc:=hl c (by simp);obtain⟨g1,g2⟩:=af1 m st c hc hb h1 h2;exact ih _ (λx hx=>hl x (by simp [hx])) (zrq m st c hc hb) g1 g2
theorem ads(m:Int)(p:af)(h1:1<=p.size)(h2:p.size<=65535)(o:List af):(bl (strOf [(p.size:Int)/256,(p.size:Int)% 256]++p)).foldl (c8 m) (false,[],o)=if m<p.size then(true,[],o) else(false,[],o++ [p]):=by
 have hb:bl (strOf [(p.size:Int)/256,(p.size:Int)% 256]++p)=(p.size:Int)/256::(p.size:Int)% 256::bl p:=by rw[tR,wO];rfl;intro x hx;simp at hx;unfold zl;omega
 rw[z131 m _ _ 0 o (aZ _) (by omega) (λx hx=>su hx),hb,od,dif_neg (by simp)];have hz:mY ((p.size:Int)/256::(p.size:Int)% 256::bl p)=p.size:=by unfold mY;rw[if_neg (by simp)];simp;omega
 rw[hz];by_cases h:m<p.size
 ·rw[if_pos (.inr h),if_pos h];simp
 ·rw[if_neg (by omega),if_neg h,if_neg (by simp [zg];omega)];have e1:List.drop (2+((p.size:Nat):Int).toNat) ((p.size:Int)/256::(p.size:Int)% 256::bl p)=[]:=by apply aK;simp [zg];omega
  have e2:List.take ((p.size:Nat):Int).toNat (List.drop 2 ((p.size:Int)/256::(p.size:Int)% 256::bl p))=bl p:=by rw[ar,<-zg];exact List.take_length
  rw[e1,e2,od,dif_pos (by simp),CU];simp
def iX(l:List af):af:=l.foldl (· ++ ·) (bs [])
theorem afZ(l:List af):∀a:af,bl (l.foldl (· ++ ·) a)=bl a++(l.map bl).flatten:=by
 induction l with
 |nil=>intro a;simp
 |cons x r ih=>intro a;rw[cm,ih,tR];simp
theorem VQ(l:List af):bl (iX l)=(l.map bl).flatten:=by unfold iX;rw[afZ,zo0];simp
theorem af6(l:List af)(hl:l.length<=maxLen):∀(n j k:Nat) (a:af),j+n=l.length->n<k->a.size+sizes (l.drop j)<=1000000000->
 J7 k l a j=some ((l.drop j).foldl (· ++ ·) a):=by
 intro n;rw[zh] at hl
 induction n with
 |zero=>
  intro j k a hj hk hs;obtain⟨k,rfl⟩:∃k',k=k'+1:=⟨k-1,by omega⟩
  rw[J7,Td,zF (by omega),aK (by omega)];rfl
 |succ n ih=>
  intro j k a hj hk hs;obtain⟨k,rfl⟩:∃k',k=k'+1:=⟨k-1,by omega⟩
  have bR:j<l.length:=by omega
  rw[aO bR] at hs;simp only[sizes,bd,lY] at hs;rw[J7,Td,zT (by omega),zC,zi bR,zgx bR,zT (by omega),zC,zu (by omega),ih (j+1) k (a++l[j]) (by omega) (by omega) (by rw[cq];simp only[sizes];omega),aO bR];rfl
theorem aj2(l:List af)(hl:l.length<=maxLen)(hs:sizes l<=1000000000):Bh l=some (iX l):=by unfold Bh Wj;have:=af6 l hl l.length 0 bG (bs []) (by omega) (by rw[zv];rw[zh] at hl;omega) (by rw[aN];have:(bs []).size=0:=rfl;omega);rw[show((0:Nat):Int)=0 from rfl] at this;simp only[this,zc,Wk];rfl
theorem zs3(l:List af):(iX l).size=sizes l:=by
 rw[<-zg,VQ];unfold sizes
 induction l with
 |nil=>rfl
 |cons x r ih=>simp only[bd,List.flatten_cons,aF,lY,zg] at ih⊢;omega
theorem zyg:∀{l:List eY} {seen:List af} {i:Int},qj seen l i=none->(∀p∈l,p.1∉seen)/\l.Pairwise λx y=>x.1≠y.1
 | [],seen,i,h=>⟨λp hp=>(by cases hp),eW⟩
 |q::r,seen,i,h=>by
  rw[qj] at h;by_cases e:q.1∈seen
  ·rw[if_pos e] at h;cases h
  ·rw[if_neg e] at h;obtain⟨h1,h2⟩:=zyg h;refine⟨λp hp=> ?_,bk.2 ⟨λp hp he=> ?_,h2⟩⟩
   ·rcases aD.1 hp with rfl|hp
    ·exact e
    ·exact λhm=>h1 p hp (cI _ hm)
   ·exact h1 p hp (by rw[he];simp)
theorem zgv{α:Type}{p:α->Bool}:∀{l:List α} {x:α},x∈l->p x=true->(∀y∈l,p y=true->y=x)->l.find? p=some x
 | [],x,h,_,_=>by cases h
 |a::r,x,h,hp,hu=>by
  rw[dn];cases ha:p a with
  |true=>rw[hu a aM ha]
  |false=>
   rcases aD.1 h with rfl|h
   ·rw[hp] at ha;cases ha
   ·exact zgv h hp λy hy=>hu y (aE _ hy)
theorem ajw{l:List eY}(h:l.Pairwise λx y=>x.1≠y.1):∀x∈l,∀y∈l,x.1=y.1->x=y:=by
 induction l with
 |nil=>intro x hx;cases hx
 |cons a r ih=>
  obtain⟨h1,h2⟩:=bk.1 h;intro x hx y hy e;rcases aD.1 hx with ex|GZ
  ·rcases aD.1 hy with ey|IG
   ·rw[ex,ey]
   ·rw[ex] at e;exact absurd e (h1 y IG)
  ·rcases aD.1 hy with ey|IG
   ·rw[ey] at e;exact absurd e.symm (h1 x GZ)
   ·exact ih h2 x GZ y IG e
theorem ac4{l:List eY}(h:l.Pairwise λx y=>x.1≠y.1){p:eY}(hp:p∈l):zr l p.1=(p.2.1,true):=by unfold zr;rw[zgv hp (by simp) λy hy he=>ajw h y hy p hp (of_decide_eq_true he)]
theorem zm6{l:List eY}(h:Gi l=true){t:af}(ht:(zr l t).2=true):zr (mT l) (zr l t).1=(t,true):=by obtain⟨p,hp,e1,e2⟩:=Vn ht;rw[e2,<-e1];have hm:((p.2.1,p.1,()):eY)∈mT l:=bm.2 ⟨p,hp,rfl⟩;exact ac4 (zyg (zsm (zwz.1 h).2).2).2 hm
theorem aim(c:Nat):eJ (aw c 48)=true:=by rw[eJ,aR];intro x hx;rw[(List.mem_replicate.1 hx).2];rfl
theorem ain(c:Nat):oi (aw c 48)=true:=by rw[oi,aR];intro x hx;rw[(List.mem_replicate.1 hx).2];rfl
theorem Rs{t:af}{w:Int}(h1:1<=t.size)(h2:(t.size:Int)<=w)(h3:w<=999)(hd:eJ (bl t)=true):lN t w=(strOf (aw (w-t.size).toNat 48++bl t),true):=by rw[zsc ⟨h1,by omega,hd,by omega,h3⟩,zT h2];rfl
theorem agp{t:af}{w:Int}(h1:1<=t.size)(h2:(t.size:Int)<=w)(h3:w<=999)(hd:eJ (bl t)=true):lN (lN t w).1 (t.size:Int)=(t,true):=by
 rw[Rs h1 h2 h3 hd];show lN (strOf (aw (w-t.size).toNat 48++bl t)) _=_;obtain⟨c,hc⟩:∃c:Nat,w=t.size+c:=⟨(w-t.size).toNat,by omega⟩
 rw[show(w-(t.size:Int)).toNat=c by omega];have Gu:eJ (aw c 48++bl t)=true:=by have e:eJ (aw c 48++bl t)=(eJ (aw c 48)&&eJ (bl t)):=List.all_append ..;rw[e,aim,hd];rfl
 have sZ:(aw c (48:Int)++bl t).length=c+t.size:=by rw[aF,List.length_replicate,zg]
 rw[zsc ⟨by rw[wM];omega,by rw[wM];omega,by rw[wO (SU Gu)];exact Gu,by omega,by omega⟩,wM,sZ,wO (SU Gu)];cases c with
 |zero=>rw[zT (by omega),zC,show((t.size:Int)-((0+t.size:Nat):Int)).toNat=0 by omega,List.replicate_zero,bD,bD,CU]
 |succ c=>rw[zF (by omega),zD,show c+1+t.size-(t.size:Int).toNat=c+1 by omega,kX (by simp),kU (by simp),ain,CU];rfl
theorem VW{r:dC}{a b:zf}(hu:Ft r a b=true):r.1=1\/(r.1=4/\(cV a r.2.1).2.2.2.1<=(cV b r.2.2.1).2.2.2.1)\/(r.1=5/\Gi r.2.2.2.2.1=true):=by
 unfold Ft at hu;by_cases k1:r.1=1
 ·exact .inl k1
 by_cases k4:r.1=4
 ·rw[zF k1,zT k4,zD,zC] at hu;exact .inr (.inl ⟨k4,of_decide_eq_true hu⟩)
 by_cases k5:r.1=5
 ·rw[zF k1,zF k4,zT k5] at hu;exact .inr (.inr ⟨k5,hu⟩)
 rw[zF k1,zF k4,zF k5] at hu;cases hu
theorem R9{r:dC}(k:r.1=1)(b:zf)(t:af):zt r b t=((r.2.2.1,t,()),0):=by unfold zt;rw[zT k];rfl
theorem Sa{r:dC}(k:r.1=4){b:zf}(hb:eK b r.2.2.1=true)(t:af):zt r b t=(bif !(lN t (cV b r.2.2.1).2.2.2.1).2 then(tv,5) else((r.2.2.1,(lN t (cV b r.2.2.1).2.2.2.1).1,()),0)):=by unfold zt;rw[zF (by omega:¬r.1=1),zF (by omega:¬r.1=2),zF (by omega:¬r.1=3),zT k,hb];rfl
theorem Sb{r:dC}(k:r.1=5)(b:zf)(t:af):zt r b t=(bif !(zr r.2.2.2.2.1 t).2 then(tv,15) else((r.2.2.1,(zr r.2.2.2.2.1 t).1,()),0)):=by unfold zt;rw[zF (by omega:¬r.1=1),zF (by omega:¬r.1=2),zF (by omega:¬r.1=3),zF (by omega:¬r.1=4),zT k];rfl
theorem oV.abC{r:dC}{a b:zf}(h:oV r a b)(k:r.1=4):pQ (cV a r.2.1)=true/\pQ (cV b r.2.2.1)=true:=by
 have hk:=h.kind;unfold qR at hk;rw[zF (by omega:¬r.1=1),zF (by omega:¬r.1=3),zT k,zD,zD,zC] at hk;cases h1:pQ (cV a r.2.1) with
 |false=>rw[h1] at hk;simp at hk
 |true=>
  cases h2:pQ (cV b r.2.2.1) with
  |false=>rw[h1,h2] at hk;simp at hk
  |true=>exact⟨rfl,rfl⟩
theorem ajv{r:dC}{a b:zf}(h:oV r a b)(ob:pL b)(k:r.1=4)(hm:(cV a r.2.1).2.2.2.1<=(cV b r.2.2.1).2.2.2.1){t:af}(ht:t.size<=1099511627776)(hv:eS (cV a r.2.1) t=0):
 1<=t.size/\(t.size:Int)=(cV a r.2.1).2.2.2.1/\(t.size:Int)<=(cV b r.2.2.1).2.2.2.1/\(cV b r.2.2.1).2.2.2.1<=999/\eJ (bl t)=true:=by
 obtain⟨p1,p2⟩:=h.abC k;obtain⟨c1,c2⟩:=zsd p1;obtain⟨v1,v2,v3,v4,v5⟩:=(Hs _ t ht).1 hv;obtain⟨f1,f2,f3,f4,f5,f6⟩:=Vl v1;have sb:=SQ ob (h.hasB (by omega));obtain⟨g1,g2,g3,g4,g5,g6⟩:=Vl sb;have e:=f5 c2;rw[c1,zwy] at v4;exact⟨by omega,by omega,by omega,by omega,v4⟩
theorem ac5{r:dC}{a b:zf}(h:oV r a b)(ob:pL b)(hu:Ft r a b=true){t:af}(ht:t.size<=1099511627776)(hv:eS (cV a r.2.1) t=0)(hz:(zt r b t).2=0):
 (zt r b t).1.1=r.2.2.1/\zt (jv r) a (zt r b t).1.2.1=((r.2.1,t,()),0):=by
 rcases VW hu with k|⟨k,hm⟩|⟨k,hb⟩
 ·rw[R9 k,R9 (show(jv r).1=1 from k)];exact⟨rfl,rfl⟩
 ·obtain⟨g1,g2,g3,g4,g5⟩:=ajv h ob k hm ht hv;have hp:(lN t (cV b r.2.2.1).2.2.2.1).2=true:=by rw[Rs g1 g3 g4 g5]
  rw[Sa k (h.hasB (by omega)),hp,ai,zD];refine⟨rfl,?_⟩;show zt (jv r) a (lN t (cV b r.2.2.1).2.2.2.1).1=_;rw[Sa (show(jv r).1=4 from k) (show eK a (jv r).2.2.1=true from h.Nx (by omega))];show(bif !(lN (lN t (cV b r.2.2.1).2.2.2.1).1 (cV a r.2.1).2.2.2.1).2 then(tv,(5:Int)) else((r.2.1,(lN (lN t (cV b r.2.2.1).2.2.2.1).1 (cV a r.2.1).2.2.2.1).1,()),0))=_;rw[<-g2,agp g1 g3 g4 g5];rfl
 ·rw[Sb k] at hz⊢;cases hp:(zr r.2.2.2.2.1 t).2 with
  |false=>rw[hp] at hz;exact absurd hz (by decide:¬(15:Int)=0)
  |true=>rw[ai,zD];refine⟨rfl,?_⟩;show zt (jv r) a (zr r.2.2.2.2.1 t).1=_;rw[Sb (show(jv r).1=5 from k)];show(bif !(zr (mT r.2.2.2.2.1) (zr r.2.2.2.2.1 t).1).2 then(tv,(15:Int)) else((r.2.1,(zr (mT r.2.2.2.2.1) (zr r.2.2.2.2.1 t).1).1,()),0))=_;rw[zm6 hb hp];rfl
theorem acA{x y:dC}(h:q9 x y=false)(hx:x.2.1≠0):x.2.1≠y.2.1:=by unfold q9 at h;rw[cR] at h;have:=h.1;rw[zF hx] at this;simpa using this
theorem afW{m:Map}{a b:zf}(h:mU m a b){q:dC}(hq:q∈m.2.1)(hz:q.2.1≠0):kM m q.2.1=some q:=by
 unfold kM;refine zgv hq (by simp) λy hy he=> ?_;by_cases e:q=y
 ·exact e.symm
 ·exact absurd (of_decide_eq_true he).symm (acA (zod h.n9 q hq y hy e) hz)
theorem VC{m:Map}{a b:zf}(h:s9 m a b=true):mU m a b/\Gi m.1=true/\∀r∈m.2.1,Ft r a b=true:=by unfold s9 at h;simp only[ap,decide_eq_true_eq,aR] at h;exact⟨SZ.1 h.1,h.2.1,h.2.2⟩
theorem ady{m:Map}{a b:zf}(h:s9 m a b=true):qa m.2.1=[]:=by
 cases hc:qa m.2.1 with
 |nil=>rfl
 |cons v l=>obtain⟨r,hr,k,_⟩:=Lb.1 (show v∈qa m.2.1 by rw[hc];exact aM);rcases VW ((VC h).2.2 r hr) with g|⟨g,_⟩|⟨g,_⟩<;>omega
theorem af4{m:Map}{a b:zf}(h:s9 m a b=true):qa (mE m).2.1=[]:=by
 cases hc:qa (mE m).2.1 with
 |nil=>rfl
 |cons v l=>obtain⟨r,hr,k,_⟩:=Lb.1 (show v∈qa (mE m).2.1 by rw[hc];exact aM);obtain⟨q,hq,rfl⟩:=bm.1 (show r∈m.2.1.map jv from hr);have k:q.1=3:=k;rcases VW ((VC h).2.2 q hq) with g|⟨g,_⟩|⟨g,_⟩<;>omega
section
variable {m:Map} {a b:zf} {x:fL} {ys:List eH}
theorem Qb(hi:s9 m a b=true)(hm:mB m)(hx:nf x)(hd:hD m a b x ys){w:eH}(hw:w∈x.2.1){q:dC}(hq:kM m w.1=some q)(hz:(zt q b w.2.1).2=0):
 (zt q b w.2.1).1.1≠0/\kM (mE m) (zt q b w.2.1).1.1=some (jv q)/\zt (jv q) a (zt q b w.2.1).1.2.1=(w,0):=by
 obtain⟨g1,g2,g3⟩:=hd.qk;obtain⟨i1,i2,i3⟩:=VC hi;obtain⟨qm,qf⟩:=JS hq;have r0:=zhf.1 (i1.rules q qm);obtain⟨e1,e2⟩:=ac5 r0 i1.okB (i3 q qm) (hx.yS w hw) (by rw[qf];exact(g1 w hw).2) hz;have hk:q.1≠2:=by rcases VW (i3 q qm) with g|⟨g,_⟩|⟨g,_⟩<;>omega
 have II:=i1.OO qm hk;rw[e1,e2,qf];exact⟨II,afW (PJ hi) (q:=jv q) (bm.2 ⟨q,qm,rfl⟩) II,rfl⟩
theorem ai6(hi:s9 m a b=true)(hm:mB m)(hx:nf x)(hd:hD m a b x ys):vi (mE m) b a ((zr m.1 x.1).1,tT (ys++qa m.2.1) 127 2,())=(x,pT):=by
 obtain⟨g1,g2,g3⟩:=hd.qk;obtain⟨i1,i2,i3⟩:=VC hi;have hc:=ady hi;have gL:=hd.mem;rw[hc] at gL;have out:=hd.out hm hx;rw[hc] at out⊢;have there:∀v∈tT (ys++ []) 127 2,∃w∈x.2.1,kM (mE m) v.1≠none/\∀q',kM (mE m) v.1=some q'->zt q' a v.2.1=(w,0):=λv hv=>by
  rcases(gL v).1 hv with hv|⟨hv,Oi⟩
  ·cases hv
  ·obtain⟨w,hw,q,hf,h0,rfl⟩:=JM hd.xS v hv;obtain⟨b1,b2,b3⟩:=Qb hi hm hx hd hw hf h0;exact⟨w,hw,by rw[b2];exact nofun,λq' hq'=>by rw[b2] at hq';cases hq';exact b3⟩
 have GF:=zm6 i2 hd.head;obtain⟨zs,Oo⟩:∃zs,rF (mE m) a (tT (ys++ []) 127 2)= .inr zs:=SD.2 λv hv=>by
  obtain⟨w,hw,n1,n2⟩:=there v hv;cases hf:kM (mE m) v.1 with
  |none=>exact absurd hf n1
  |some q'=>exact⟨q',hf,by rw[n2 q' hf]⟩
 have wT:hD (mE m) b a ((zr m.1 x.1).1,tT (ys++ []) 127 2,()) zs:=⟨PJ hi,out,by show(zr (mT m.1) (zr m.1 x.1).1).2=true;rw[GF],Oo⟩
 rw[wT.eq];have hl:tT (zs++qa (mE m).2.1) 127 2=x.2.1:=by
  refine zxi wT.ris g2 λw=> ?_;rw[wT.mem,af4 hi];constructor
  ·rintro(hw|⟨hw,hw0⟩)
   ·cases hw
   ·obtain⟨v,hv,q',hf,h0,rfl⟩:=JM Oo w hw;obtain⟨u,hu,n1,n2⟩:=there v hv;rw[n2 q' hf];exact hu
  ·intro hw;right;refine⟨?_,by have:=g3 w hw;omega⟩;obtain⟨q,hf,h0,lR⟩:=zd3 hd.xS w hw;obtain⟨b1,b2,b3⟩:=Qb hi hm hx hd hw hf h0;obtain⟨q',f1,f2,f3⟩:=zd3 Oo (zt q b w.2.1).1 ((gL _).2 (.inr ⟨lR,b1⟩));rw[b2] at f1;cases f1;rw[b3] at f3;exact f3
 rw[hl];show(((zr (mT m.1) (zr m.1 x.1).1).1,x.2.1,()),pT)=_;rw[GF]
end
end eD

namespace eD
open Go.IntKind renaming wrap->zW,i64->zI,u8->zU
open Go Go.Ref
theorem zg2(p:dt)(n:Int)(m:fL)(f:gh):(pM p n m f).1≠1/\(mM m.1=false->(pM p n m f).1≠2):=by
 unfold pM;split
 ·rename_i hr;split
  ·exact⟨by decide,λ_=>by decide⟩
  ·exact⟨show(2:Int)≠1 by decide,λh=>by rw[hr] at h;cases h⟩
 ·exact⟨by decide,λ_=>by decide⟩
section
variable {p q:dt} {n:Int} (h:jG p q) (h0:xc p q n)
include h
theorem Sg{b s:af}(hb:b.size<=1099511627776)(ho:mX p q n b=(1,s)):∃m x,pK p.1 m/\pV m/\mg p.1 m=b/\vi p.2.1 p.1 q.1 m=(x,pT)/\pK q.1 x/\pV x/\s=mg q.1 x/\(s.size:Int)<=n:=by
 unfold mX xM at ho;split at ho
 ·have:=(zg2 p n (mV p.1 b).1 (mV p.1 b).2).1;rw[ho] at this;exact absurd rfl this
 rename_i hd;have hd:(mV p.1 b).2.1=0:=dy hd;obtain⟨d1,d2,d3,d4⟩:=afI (m:=(mV p.1 b).1) (f:=(mV p.1 b).2) hb rfl hd;unfold xN at ho;split at ho
 ·have:=(zg2 p n (mV p.1 b).1 (vi p.2.1 p.1 q.1 (mV p.1 b).1).2).1;rw[ho] at this;exact absurd rfl this
 rename_i ht;have ht:(vi p.2.1 p.1 q.1 (mV p.1 b).1).2.1=0:=dy ht;split at ho
 ·have:=(zg2 p n (mV p.1 b).1 (5,129,())).1;rw[ho] at this;exact absurd rfl this
 rename_i hn;obtain⟨t1,t2⟩:=zzw h d3.ok ht;have he:(vi p.2.1 p.1 q.1 (mV p.1 b).1).2=pT:=by
  rcases zan p.2.1 p.1 q.1 (mV p.1 b).1 with⟨f,hf,e⟩|⟨ys,_,e⟩
  ·rw[e] at ht;exact absurd ht hf
  ·rw[e]
 injection ho with _ ho
 exact⟨_,_,d2,d3,d4,Prod.ext rfl he,t1,zs8 t2 t1,ho.symm,by rw[<-ho];omega⟩
include h0
theorem ann{b s:af}(hb:b.size<=1099511627776)(ho:mX p q n b=(2,s)):∃x,pK p.1 x/\pV x/\mM x.1=false/\s=mg p.1 x/\(s.size:Int)<=n:=by
 have tC:=Pn p.1 b hb;have ans:∀(f:gh),pM p n (mV p.1 b).1 f=(2,s)->∃x,pK p.1 x/\pV x/\mM x.1=false/\s=mg p.1 x/\(s.size:Int)<=n:=λf hf=>by
  unfold pM at hf;split at hf
  ·rename_i hr;obtain⟨b1,b2,b3⟩:=Pj (P1 h0.rp) h.sp h.pe tC f.1 hr;split at hf
   ·cases hf
   ·rename_i hn;injection hf with _ hf
    exact⟨_,b1,b2,b3,hf.symm,by rw[<-hf];omega⟩
  ·cases hf
 unfold mX xM at ho;split at ho
 ·exact ans _ ho
 unfold xN at ho;split at ho
 ·exact ans _ ho
 split at ho
 ·exact ans _ ho
 ·cases ho
end
theorem ad0(p q:dt)(n:Int):BC ([p,q],n,())=some ([q,p],n,()):=rfl
end eD

namespace eD
open Go.IntKind renaming wrap->zW,i64->zI,u8->zU
open Go Go.Ref
abbrev oJ:=Int×Int×af×Int×Unit
abbrev Gw:=Kl×(ae Fr×ae Fr)×Int
def IP(i:Int)(x:dC)(s:List dC)(K:List dC->ae (List dC×dt×dt)):ae (List dC×dt×dt):=
 bif(decide (x.2.2.2.2.1.length*32<=140737488355328)) then(bif(decide ((s.length+(ag ([(x.1,x.2.1,x.2.2.1,x.2.2.2.1,x.2.2.2.2.1,())]:List dC)))*64<=140737488355328)) then K (s++ [(x.1,x.2.1,x.2.2.1,x.2.2.2.1,x.2.2.2.2.1,())]) else none) else none
theorem Rp(b1 b2:dt):∀(l:List dC) (i:Int) (s:List dC),(∀r∈l,oW r)->s.length+l.length<=1000000->fD IP (λs=>some (s,b1,b2)) l i s=some (s++l,b1,b2)
 | [],i,s,_,_=>by rw[bM];rfl
 |x::l,i,s,h,hl=>by have hp:=(h x (by simp)).n9.len;simp only[aB] at hl;rw[fD,IP,zT (by omega),zC,zT (by simp only[aB,cM];omega),zC,Rp b1 b2 l (i+1) _ (λr hr=>h r (by simp [hr])) (by simp;omega)];rw[aQ];rfl
theorem Sp(s:dt)(h:lO s)(hm:mB s.2.1)(h2:s.1.2.2.1.length<=200):Mi s=some s:=by
 have he:=h.Ac;have hc:=h.pX;have hl:=hm.len;have ht:=hm.xI.len;unfold Mi ZV;rw[zT (by omega),zC,zT (by omega),zC,zT (by omega),zC,zT (by omega),zC];have:=jJ ((0:Int),(0:Int),(0:Int),bs [],([]:List eY),()) s.2.1.2.1 (by rw[zh];omega) IP (λl=>some (l,(s.1,s.2.1,s.2.2.1,s.2.2.2.1,()),rT))
  (λk i l=>T8 k l s.2.1.2.1 (s.2.1.2.1.length:Int) i (s.1,s.2.1,s.2.2.1,s.2.2.2.1,()) rT) (λk i l=>rfl) []
 dsimp only;refine(congrArg (λo=>iE o _) (this.trans (Rp _ _ s.2.1.2.1 0 [] hm.rules (by simp;omega)))).trans ?_;rw[zc,bD];unfold ZW;rw[zT (by show s.2.2.1.length*8<=_;omega),zC,zT (by show s.2.2.2.1.length*24<=_;omega),zC]
def gw(c:Kl)(n:Int)(x y:af)(d:Int):Gw:=(c,(some (mI n (bl x)),some (mI n (bl y))),d)
theorem O3(p q:dt)(n:Int)(h:jG p q):H2 ([p,q],n,())=some (if(nZ p q n).1=0 then .inr (0,gw ([p,q],n,()) n (bs []) (bs []) 0) else .inl 1):=by
 obtain⟨k,hk⟩:=Z5;unfold H2 ZS;rw[zdj p q n h,zc];by_cases h0:(nZ p q n).1=0
 case neg=>rw[zF h0,if_neg h0];rfl
 rw[zT h0,if_pos h0,ai,zD,hk];have hc:=AZ.1 h0;have hn:¬(n<1\/65535<n):=λe=>by have:=hc.n1;have:=hc.n2;omega
 unfold Ks LJ;simp only[Fa,Fb,I0,I1,K2,K3,gp,gq,UE,UF,Hb,Hc];rw[zT (by decide:(0:Int)<2),zC,Sp p h.sp h.pm h.OI,zc,RC,zc,if_neg hn,cj];dsimp only;unfold Ks LJ;simp only[Fa,Fb,I0,I1,K2,K3,gp,gq,UE,UF,Hb,Hc];rw[zT (by decide:(1:Int)<2),zC,Sp q h.sq h.qm h.OJ,zc,RC,zc,if_neg hn,cj];dsimp only;unfold Ks LJ;rw[zF (by decide:¬(2:Int)<2),zD];rfl
abbrev Ev:=Int×af×Unit
abbrev Item:=Int×ae af
def ml(b:af):af:=if b.size<1\/65535<b.size then bs [] else strOf [(b.size:Int)/256,(b.size:Int)% 256]++b
theorem af0(b:af)(h:b.size<=70000):∃e,H0 b=some (ml b,e):=by
 rw[aiX b h];unfold ml;by_cases hb:b.size<1\/65535<b.size
 ·rw[if_pos hb,if_pos hb];exact⟨_,rfl⟩
 ·rw[if_neg hb,if_neg hb];exact⟨_,rfl⟩
theorem agA(b:af)(h:b.size<=70000):xg b=some (ml b):=acd b h
theorem zg3{n:Int}(hn:n<=65535)(p:dt)(m:fL)(f:gh):(pM p n m f).2.size<=65535:=by
 unfold pM;split
 ·split
  ·exact bS _
  ·rename_i h;show(mg p.1 (A8 p m f.1)).size<=65535;omega
 ·exact bS _
theorem zzg{n:Int}(hn:n<=65535)(p q:dt)(b:af):(mX p q n b).2.size<=65535:=by
 unfold mX xM;split
 ·exact zg3 hn _ _ _
 ·unfold xN;split
  ·exact zg3 hn _ _ _
  ·split
   ·exact zg3 hn _ _ _
   ·rename_i h;show(mg q.1 _).size<=65535;omega
theorem Le{p q:dt}{n:Int}(link:Int)(b:af):(iq p q n link b).2.size<=65535:=by
 unfold iq;split
 ·exact bS _
 ·rename_i h;have h0:=AZ.1 (Decidable.not_not.1 h);split
  ·exact zzg h0.n2 _ _ _
  ·split
   ·exact zzg h0.n2 _ _ _
   ·exact bS _
def rC(p q:dt)(n link d:Int)(b:af):oJ×Int:=
 if(iq p q n link b).1=3 then((link,3,bs [],zW zI (d+1),()),zW zI (d+1))
 else if(iq p q n link b).1=1 then((zW zI (1-link),1,ml (iq p q n link b).2,d,()),d)
 else((link,(iq p q n link b).1,ml (iq p q n link b).2,d,()),d)
theorem adD(p q:dt)(n link d:Int)(b:af)(m:ae Fr×ae Fr)(h:jG p q)(hb:b.size<=1099511627776):
 Kz (([p,q],n,()),m,d) link b=some ((rC p q n link d b).1,(([p,q],n,()),m,(rC p q n link d b).2)):=by
 unfold Kz ZQ rC;rw[acY p q n link b h hb,zc];have hs:=Le (p:=p) (q:=q) (n:=n) link b;obtain⟨e,hp⟩:=af0 _ (show(iq p q n link b).2.size<=70000 by omega);generalize iq p q n link b=r at hs hp⊢;by_cases h3:r.1=3
 ·rw[zT h3,if_pos h3,zC,h3]
 rw[zF h3,if_neg h3,zD];by_cases h1:r.1=1
 ·rw[zT h1,if_pos h1,zC,hp,zc,h1]
 ·rw[zF h1,if_neg h1,zD,hp,zc]
def p7(p q:dt)(n d:Int)(it:Item):oJ×Int:=match it.2 with
 |some b=>rC p q n it.1 d b
 |none=>((it.1,4,bs [],d,()),d)
def fe(p q:dt)(n:Int):Int->List Item->List oJ×Int
 |d,[]=>([],d)
 |d,it::r=>((p7 p q n d it).1::(fe p q n (p7 p q n d it).2 r).1,(fe p q n (p7 p q n d it).2 r).2)
theorem zha(p q:dt)(n:Int):∀(a b:List Item) (d:Int),fe p q n d (a++b)=((fe p q n d a).1++(fe p q n (fe p q n d a).2 b).1,(fe p q n (fe p q n d a).2 b).2)
 | [],b,d=>rfl
 |it::a,b,d=>by rw[List.cons_append,fe,fe,zha p q n a b];rfl
theorem Vh(p q:dt)(n:Int):∀(a:List Item) (d:Int),(fe p q n d a).1.length=a.length
 | [],d=>rfl
 |it::a,d=>by rw[fe,aB,aB,Vh p q n a]
def zq(n:Int)(a:List Int):List (ae af):=(ej n a).2.2.map some++if(ej n a).1=true then [none] else []
def kj(n:Int)(a b:List Int):List (ae af):=(zq n (a++b)).drop (zq n a).length
theorem zdh(n:Int)(a b:List Int):zq n (a++b)=zq n a++((b.foldl (c8 n) ((ej n a).1,(ej n a).2.1,[])).2.2.map some++if decide ((ej n (a++b)).1=true/\(ej n a).1=false)=true then [none] else []):=by
 unfold zq;have uT:=zak n a b;cases hd:(ej n a).1 with
 |true=>rw[hd,Ld] at uT;rw[Ld,uT];simp
 |false=>
  rw[hd] at uT;have e1:(ej n (a++b)).2.2=(ej n a).2.2++(b.foldl (c8 n) (false,(ej n a).2.1,[])).2.2:=by rw[uT]
  rw[e1];simp
theorem YA(n:Int)(a b:List Int):kj n a b=(b.foldl (c8 n) ((ej n a).1,(ej n a).2.1,[])).2.2.map some++if decide ((ej n (a++b)).1=true/\(ej n a).1=false)=true then [none] else []:=by unfold kj;rw[zdh,List.drop_left]
theorem CP(n:Int)(a b:List Int):zq n (a++b)=zq n a++kj n a b:=by rw[YA,<-zdh]
theorem acL(n:Int)(a b c:List Int):kj n a (b++c)=kj n a b++kj n (a++b) c:=by have h1:=CP n a (b++c);have h2:=CP n (a++b) c;rw[<-aQ,h2,CP n a b,aQ] at h1;exact(ke h1).symm
theorem ajl(n:Int)(a:List Int):kj n a []=[]:=by unfold kj;rw[bM,List.drop_length]
theorem PM(n:Int)(a b:List Int):(kj n a b).length<=b.length+1:=by
 rw[YA];have:=(VU n b ((ej n a).1,(ej n a).2.1,[])).2;rw[aF,cf];split
 ·simp at this⊢;omega
 ·simp at this⊢;omega
def B7(k:Int)(i:Int)(x:af)(s:List oJ×Gw)(K:List oJ×Gw->ae (List oJ×Bool×Gw×Ev)):ae (List oJ×Bool×Gw×Ev):=
 (Kz s.2 k x).bind λr4=>(bif(decide ((s.1.length+(ag ([r4.1]:List oJ)))*40<=140737488355328)) then K (s.1++([r4.1]:List oJ),r4.2) else none)
theorem Pr(p q:dt)(n k:Int)(h:jG p q)(m:ae Fr×ae Fr)(b:Bool)(e:Ev):∀(l:List af) (i:Int) (s:List oJ) (d:Int),(∀x∈l,x.size<=1099511627776)->s.length+l.length<=3000000000000->
 fD (B7 k) (λs=>some (s.1,b,s.2,e)) l i (s,(([p,q],n,()),m,d))=some (s++(fe p q n d (l.map λx=>(k,some x))).1,b,(([p,q],n,()),m,(fe p q n d (l.map λx=>(k,some x))).2),e)
 | [],i,s,d,_,_=>by rw[eA,fe,bM];rfl
 |x::l,i,s,d,hb,hl=>by
  simp only[aB] at hl;rw[fD,B7,adD p q n k d x m h (hb x (by simp)),zc,zT (by simp only[aB,cM];omega),zC,
   Pr p q n k h m b e l (i+1) _ _ (λy hy=>hb y (by simp [hy])) (by simp;omega),bd,fe,aQ]
  rfl
theorem Ou(k:Int):Mh k=some (decide (k=0\/k=1)):=by
 unfold Mh ZT;by_cases h:k=0
 ·simp [h]
 ·simp [h]
def nD(n:Int)(xy:af×af)(e:Ev):List Item×BU:=
 if e.1=0 then((kj n (bl xy.1) (bl e.2.1)).map λi=>((0:Int),i),(xy.1++e.2.1,xy.2))
 else if e.1=1 then((kj n (bl xy.2) (bl e.2.1)).map λi=>((1:Int),i),(xy.1,xy.2++e.2.1))
 else([],xy)
theorem adH(m:Int)(l:List Int):∀(st:Bool×List Int×List af),∀x∈(l.foldl (c8 m) st).2.2,x∈st.2.2\/x.size<=st.2.1.length+l.length:=by
 induction l with
 |nil=>intro st x hx;exact .inl hx
 |cons c r ih=>
  intro st x hx;have h:(c8 m st c).2.1.length<=st.2.1.length+1/\∀y∈(c8 m st c).2.2,y∈st.2.2\/y.size<=st.2.1.length+1:=by
   unfold c8;split
   ·exact⟨by omega,λy hy=> .inl hy⟩
   ·split
    ·exact⟨by simp,λy hy=> .inl hy⟩
    ·split
     ·refine⟨by simp,λy hy=> ?_⟩;rcases aT.1 hy with hy|hy
      ·exact .inl hy
      ·right;have:y=strOf ((st.2.1++ [c]).drop 2):=by simpa using hy
       rw[this,wM,bF,aF,aB,cM];omega
     ·exact⟨by simp,λy hy=> .inl hy⟩
  rcases ih (c8 m st c) x hx with h1|h1
  ·rcases h.2 x h1 with h2|h2
   ·exact .inl h2
   ·right;simp;omega
  ·right;have:=h.1;simp;omega
theorem zyo(p q:dt)(n k:Int)(h:jG p q)(a c:af)(m:ae Fr×ae Fr)(d:Int)(hs:a.size+c.size<=1000000000000)(F:List oJ×Bool×Gw×Ev->ae (List oJ×Gw)):
 ((HZ (mI n (bl a)) c).bind λr3=>(LI bG ([]:List oJ) r3.2.1 r3.1 ((ag r3.1):Int) (0:Int) (([p,q],n,()),((pS k.toNat (some r3.2.2) m),d)) (k,c,())).bind F)=
   F ((fe p q n d (((bl c).foldl (c8 n) ((ej n (bl a)).1,(ej n (bl a)).2.1,[])).2.2.map λx=>(k,some x))).1,decide ((ej n (bl a++bl c)).1=true/\(ej n (bl a)).1=false),(([p,q],n,()),pS k.toNat (some (mI n (bl (a++c)))) m,(fe p q n d (((bl c).foldl (c8 n) ((ej n (bl a)).1,(ej n (bl a)).2.1,[])).2.2.map λx=>(k,some x))).2),(k,c,())):=by
 have hla:=zg a;have hlc:=zg c;rw[ab7 n (bl a) c (λx hx=>su hx) (by omega),zc];dsimp only;generalize hl:((bl c).foldl (c8 n) ((ej n (bl a)).1,(ej n (bl a)).2.1,[])).2.2=l;have hlen:l.length<=c.size:=by have:=(VU n (bl c) ((ej n (bl a)).1,(ej n (bl a)).2.1,[])).2;rw[hl] at this;simp only[cM] at this;omega
 have lL:∀x∈l,x.size<=1099511627776:=λx hx=>by
  rw[<-hl] at hx;have h1:=(zoi n (bl a)).1;rcases adH n (bl c) _ x hx with h2|h2
  ·cases h2
  ·simp only at h2;omega
 have:=jJ (bs []) l (by rw[zh];omega) (B7 k) (λs=>some (s.1,decide ((ej n (bl a++bl c)).1=true/\(ej n (bl a)).1=false),s.2,(k,c,())))
  (λj i s=>LI j s.1 (decide ((ej n (bl a++bl c)).1=true/\(ej n (bl a)).1=false)) l (l.length:Int) i s.2 (k,c,())) (λj i s=>rfl) ([],(([p,q],n,()),(pS k.toNat (some (mI n (bl a++bl c))) m,d)))
 refine(congrArg (λo=>iE o F) (this.trans (Pr p q n k h _ _ _ l 0 [] d lL (by simp;omega)))).trans ?_;rw[zc,bD,tR]
theorem zxr(p q:dt)(n d:Int)(h:jG p q)(x y:af)(e:Ev)(hs:x.size+y.size+e.2.1.size<=1000000000000):
 Ky (gw ([p,q],n,()) n x y d) e=some ((fe p q n d (nD n (x,y) e).1).1,gw ([p,q],n,()) n (nD n (x,y) e).2.1 (nD n (x,y) e).2.2 (fe p q n d (nD n (x,y) e).1).2):=by
 obtain⟨k,c,u⟩:=e;cases u;dsimp only at hs;unfold Ky ZP;rw[Ou,zc];have fin:∀(a:af) (m:ae Fr×ae Fr),a.size+c.size<=1000000000000->k=0\/k=1->
  T7 (fe p q n d (((bl c).foldl (c8 n) ((ej n (bl a)).1,(ej n (bl a)).2.1,[])).2.2.map λx=>(k,some x))).1 (decide ((ej n (bl a++bl c)).1=true/\(ej n (bl a)).1=false)) (([p,q],n,()),m,(fe p q n d (((bl c).foldl (c8 n) ((ej n (bl a)).1,(ej n (bl a)).2.1,[])).2.2.map λx=>(k,some x))).2) (k,c,()) (λa0 a1=>some (a0,a1))=
  some ((fe p q n d ((kj n (bl a) (bl c)).map λi=>(k,i))).1,(([p,q],n,()),m,(fe p q n d ((kj n (bl a) (bl c)).map λi=>(k,i))).2)):=λa m hs hk=>by
  have hlc:=zg c;have hlen:=(VU n (bl c) ((ej n (bl a)).1,(ej n (bl a)).2.1,[])).2;rw[YA,cg,List.map_map,zha];unfold T7;generalize hl:((bl c).foldl (c8 n) ((ej n (bl a)).1,(ej n (bl a)).2.1,[])).2.2=l at hlen⊢;simp only[cM] at hlen;have e1:((λi=>(k,i))∘some:af->Item)=λx=>(k,some x):=rfl;rw[e1];cases decide ((ej n (bl a++bl c)).1=true/\(ej n (bl a)).1=false) with
  |false=>rw[zD,if_neg (by simp)];simp [fe]
  |true=>rw[zC,if_pos rfl,Vh,cf,zT (by simp only[aB,cM];omega),zC];simp [fe,p7]
 by_cases h0:k=0
 ·subst h0;rw[zT (.inl rfl),ai,zD];dsimp only;rw[Fa];show(getM (0:Int).toNat (some (mI n (bl x)),some (mI n (bl y)))).bind _=_;rw[show getM (0:Int).toNat (some (mI n (bl x)),some (mI n (bl y)))=some (mI n (bl x)) from rfl,zc];refine(zyo p q n 0 h x c (some (mI n (bl x)),some (mI n (bl y))) d (by omega) _).trans ?_;dsimp only;rw[fin x _ (by omega) (.inl rfl)];rfl
 by_cases h1:k=1
 ·subst h1;rw[zT (.inr rfl),ai,zD];dsimp only;rw[Fb];show(getM (1:Int).toNat (some (mI n (bl x)),some (mI n (bl y)))).bind _=_;rw[show getM (1:Int).toNat (some (mI n (bl x)),some (mI n (bl y)))=some (mI n (bl y)) from rfl,zc];refine(zyo p q n 1 h y c (some (mI n (bl x)),some (mI n (bl y))) d (by omega) _).trans ?_;dsimp only;rw[fin y _ (by omega) (.inr rfl)];rfl
 ·rw[zF (λe=>e.elim h0 h1),aY,zC];unfold nD;rw[if_neg h0,if_neg h1];rfl
def Fz(l:List Ev):Nat:=(l.map λe=>e.2.1.size).sum
theorem acO(e:Ev)(l:List Ev):Fz (e::l)=e.2.1.size+Fz l:=by simp [Fz]
theorem abR(a b:List Ev):Fz (a++b)=Fz a+Fz b:=by simp [Fz]
def lU(n:Int):af×af->List Ev->List Item×BU
 |xy,[]=>([],xy)
 |xy,e::r=>((nD n xy e).1++(lU n (nD n xy e).2 r).1,(lU n (nD n xy e).2 r).2)
theorem K7(n:Int):∀(a b:List Ev) (xy:af×af),lU n xy (a++b)=((lU n xy a).1++(lU n (lU n xy a).2 b).1,(lU n (lU n xy a).2 b).2)
 | [],b,xy=>rfl
 |e::a,b,xy=>by rw[List.cons_append,lU,lU,K7 n a b,aQ]
section
variable (p q:dt) (n:Int) (h:jG p q)
include h
end
end eD

namespace eD
open Go.IntKind renaming wrap->zW,i64->zI,u8->zU
open Go Go.Ref
section
variable (p q:dt) (n:Int) (h:jG p q) (hc:(nZ p q n).1=0)
include h hc
omit h hc in
end
end eD

namespace eD
open Go.IntKind renaming wrap->zW,i64->zI,u8->zU
open Go Go.Ref
section
variable (p q:dt) (n:Int) (h:jG p q) (hc:(nZ p q n).1=0)
include h hc
end
end eD

namespace eD
open Go.IntKind renaming wrap->zW,i64->zI,u8->zU
open Go Go.Ref
theorem SH(n:Int):zq n []=[]:=by simp [zq,ej]
def vQ(l:List Ev):List Int:=(l.map λe=>bl e.2.1).flatten
theorem Pg(e:Ev)(l:List Ev):vQ (e::l)=bl e.2.1++vQ l:=by simp [vQ]
theorem ac8(a b:List Ev):vQ (a++b)=vQ a++vQ b:=by simp [vQ]
theorem ac9(l:List Ev):(vQ l).length=Fz l:=by
 induction l with
 |nil=>rfl
 |cons e l ih=>rw[Pg,acO,aF,zg,ih]
def wW(k:Int)(xy:af×af):af:=if k=0 then xy.1 else xy.2
theorem zxb(n k:Int)(hk:k=0\/k=1):∀(l:List Ev) (xy:af×af),(∀e∈l,e.1=k)->
 (lU n xy l).1=(kj n (bl (wW k xy)) (vQ l)).map (λi=>(k,i))/\bl (wW k (lU n xy l).2)=bl (wW k xy)++vQ l/\wW (1-k) (lU n xy l).2=wW (1-k) xy
 | [],xy,_=>by rw[lU];exact⟨by rw[show vQ []=[] from rfl,ajl];rfl,by rw[show vQ []=[] from rfl,bM],rfl⟩
 |e::l,xy,he=>by
  obtain⟨h1,h2,h3⟩:=zxb n k hk l (nD n xy e).2 (λx hx=>he x (by simp [hx]));have e1:=he e (by simp);have hn:(nD n xy e).1=(kj n (bl (wW k xy)) (bl e.2.1)).map (λi=>(k,i))/\bl (wW k (nD n xy e).2)=bl (wW k xy)++bl e.2.1/\wW (1-k) (nD n xy e).2=wW (1-k) xy:=by
   unfold nD wW;rcases hk with rfl|rfl
   ·rw[if_pos e1];simp [tR]
   ·rw[if_neg (by omega),if_pos e1];simp [tR]
  rw[lU,h1,h2,h3,hn.1,hn.2.1,hn.2.2,Pg,acL,cg,aQ];exact⟨rfl,rfl,rfl⟩
def IW(k:Int)(a:af)(l:List Ev):af:=l.foldl (λa e=>if e.1=k then a++e.2.1 else a) a
theorem zz4(n:Int):∀(l:List Ev) (x y:af),(lU n (x,y) l).2=(IW 0 x l,IW 1 y l)
 | [],x,y=>rfl
 |e::l,x,y=>by
  rw[lU];dsimp only;have hn:(nD n (x,y) e).2=(if e.1=0 then x++e.2.1 else x,if e.1=1 then y++e.2.1 else y):=by
   unfold nD;by_cases h0:e.1=0
   ·rw[if_pos h0,if_pos h0,if_neg (by omega)]
   ·rw[if_neg h0,if_neg h0];by_cases h1:e.1=1
    ·rw[if_pos h1,if_pos h1]
    ·rw[if_neg h1,if_neg h1]
  rw[hn,zz4 n l];rfl
theorem znn(p:dt)(n:Int)(m:fL)(f:gh):(pM p n m f).1=2\/((pM p n m f).1=3/\(pM p n m f).2=bs []):=by
 unfold pM;split
 ·split
  ·exact .inr ⟨rfl,rfl⟩
  ·exact .inl rfl
 ·exact .inr ⟨rfl,rfl⟩
theorem PS{p q:dt}{n:Int}(h:jG p q)(h0:xc p q n)(b:af)(hb:b.size<=1099511627776):
 ((mX p q n b).1=3/\(mX p q n b).2=bs [])\/(((mX p q n b).1=1\/(mX p q n b).1=2)/\1<=(mX p q n b).2.size):=by
 have hk:(mX p q n b).1=1\/(mX p q n b).1=2\/((mX p q n b).1=3/\(mX p q n b).2=bs []):=by
  unfold mX xM;split
  ·exact .inr (znn p n _ _)
  ·unfold xN;split
   ·exact .inr (znn p n _ _)
   ·split
    ·exact .inr (znn p n _ _)
    ·exact .inl rfl
 rcases hk with h1|h2|h3
 ·obtain⟨m,x,_,_,_,_,x1,_,x3,_⟩:=Sg h (b:=b) (s:=(mX p q n b).2) hb (Prod.ext h1 rfl);have:=zo6 x1;exact .inr ⟨.inl h1,by rw[x3];omega⟩
 ·obtain⟨x,x1,_,_,x3,_⟩:=ann h h0 (b:=b) (s:=(mX p q n b).2) hb (Prod.ext h2 rfl);have:=zo6 x1;exact .inr ⟨.inr h2,by rw[x3];omega⟩
 ·exact .inl h3
theorem PT{p q:dt}{n:Int}(h:jG p q)(hc:(nZ p q n).1=0){k:Int}(hk:k=0\/k=1)(b:af)(hb:b.size<=1099511627776):
 ((iq p q n k b).1=3/\(iq p q n k b).2=bs [])\/(((iq p q n k b).1=1\/(iq p q n k b).1=2)/\1<=(iq p q n k b).2.size):=by
 unfold iq;rw[if_neg (λe=>e hc)];rcases hk with rfl|rfl
 ·rw[if_pos rfl];exact PS h (AZ.1 hc) b hb
 ·rw[if_neg (by decide),if_pos rfl];exact PS h.symm (AZ.1 hc).symm b hb
theorem zh4(n:Int)(S:List Int){a b:Nat}(h:a<=b):zq n (S.take b)=zq n (S.take a)++kj n (S.take a) ((S.take b).drop a):=by
 rw[<-CP];congr 1;have:S.take a=(S.take b).take a:=by rw[List.take_take,bN h]
 rw[this,eP]
theorem adz(n:Int)(S:List Int){a b:Nat}(h:a<=b):(zq n (S.take a)).length<=(zq n (S.take b)).length:=by rw[zh4 n S h,aF];omega
theorem ajm(n:Int)(S:List Int){f f' c c':Nat}(h1:zq n (S.take f)=zq n (S.take c))(h2:zq n (S.take f')=zq n (S.take c'))(hf:f<=f')(hc:c<=c'):
 kj n (S.take f) ((S.take f').drop f)=kj n (S.take c) ((S.take c').drop c):=by
 rw[zh4 n S hf,zh4 n S hc,h1] at h2;exact ke h2
section
variable (p q:dt) (n:Int) (h:jG p q) (hc:(nZ p q n).1=0)
include h hc
end
end eD

namespace eD
open Go.IntKind renaming wrap->zW,i64->zI,u8->zU
open Go Go.Ref
def rD(k:Int)(l:List Ev):List Int:=vQ (l.filter λe=>decide (e.1=k))
theorem Vt(k:Int)(a b:List Ev):rD k (a++b)=rD k a++rD k b:=by unfold rD;rw[jD,ac8]
theorem z183(k:Int)(e:Ev):rD k [e]=if e.1=k then bl e.2.1 else []:=by
 unfold rD;by_cases h:e.1=k
 ·rw[if_pos h,List.filter_cons_of_pos (by simpa using h)];simp [vQ]
 ·rw[if_neg h,kf (by simpa using h)];simp [vQ]
theorem V1(k:Int)(l:List Ev){j:Nat}(h:j<l.length):rD k (l.take (j+1))=rD k (l.take j)++if l[j].1=k then bl l[j].2.1 else []:=by rw[<-dj h,Vt,z183]
theorem JH(k:Int):∀(l:List Ev) (a:af),bl (IW k a l)=bl a++rD k l
 | [],a=>by rw[show rD k []=[] from rfl,bM];rfl
 |e::l,a=>by
  rw[show IW k a (e::l)=IW k (if e.1=k then a++e.2.1 else a) l from rfl,JH k l,show e::l=[e]++l from rfl,Vt,z183];by_cases h:e.1=k
  ·rw[if_pos h,if_pos h,tR,aQ]
  ·rw[if_neg h,if_neg h,bD]
theorem Rw(k:Int)(l:List Ev)(j:Nat):(rD k l).take (rD k (l.take j)).length=rD k (l.take j):=by
 have:rD k l=rD k (l.take j)++rD k (l.drop j):=by rw[<-Vt,eP]
 rw[this,kX];rfl
theorem anp(k:Int)(l:List Ev)(j:Nat):(rD k (l.take j)).length<=(rD k l).length:=by
 have:rD k l=rD k (l.take j)++rD k (l.drop j):=by rw[<-Vt,eP]
 rw[this,aF];omega
abbrev K5:af×af:=(bs [],bs [])
structure uJ(n:Int)(l:List Ev)(k:Int)(S So:List Int)(j:Nat)(out:List Ev)(c co t tt f fo:Nat):Prop where
 its:(lU n K5 out).1=(lU n K5 (l.take j)).1
 b:bl (wW k (lU n K5 out).2)=S.take f
 bo:bl (wW (1-k) (lU n K5 out).2)=So.take fo
 i:zq n (S.take f)=zq n (S.take c)
 io:zq n (So.take fo)=zq n (So.take co)
 nn:t=(zq n (S.take f)).length
 nno:tt=(zq n (So.take fo)).length
 g:f<=c
 go:fo<=co
 d:c=(rD k (l.take j)).length
 dd:co=(rD (1-k) (l.take j)).length
 e:S=rD k l
 eo:So=rD (1-k) l
 len:out.length=t+tt
 siz:Fz out=f+fo
theorem uJ.swap{n:Int}{l:List Ev}{k:Int}{S So:List Int}{j:Nat}{out:List Ev}{c co t tt f fo:Nat}(h:uJ n l k S So j out c co t tt f fo):uJ n l (1-k) So S j out co c tt t fo f:=by
 have e:1-(1-k)=k:=by omega
 exact⟨h.its,h.bo,by rw[e];exact h.b,h.io,h.i,h.nno,h.nn,h.go,h.g,h.dd,by rw[e];exact h.d,h.eo,by rw[e];exact h.e,by rw[h.len];omega,by rw[h.siz];omega⟩
theorem agF(n k:Int)(hk:k=0\/k=1)(l:List Ev):bl (wW k (lU n K5 l).2)=rD k l:=by
 rw[zz4];unfold wW;rcases hk with rfl|rfl
 ·rw[if_pos rfl];show bl (IW 0 (bs []) l)=_;rw[JH];rfl
 ·rw[if_neg (by decide)];show bl (IW 1 (bs []) l)=_;rw[JH];rfl
theorem ajk(n k:Int)(hk:k=0\/k=1)(xy:af×af)(e:Ev)(he:e.1=k):(nD n xy e).1=(kj n (bl (wW k xy)) (bl e.2.1)).map λi=>(k,i):=by have:=(zxb n k hk [e] xy (λx hx=>by simp at hx;rw[hx];exact he)).1;rw[lU,lU] at this;simpa [vQ] using this
theorem uJ.step{n:Int}{l:List Ev}{k:Int}(hk:k=0\/k=1){S So:List Int}{j:Nat}{out:List Ev}{c co t tt f fo:Nat}(h:uJ n l k S So j out c co t tt f fo)(hj:j<l.length)(he:l[j].1=k)
 {new:List Ev} {c' t' f':Nat} (hc:c'=c+l[j].2.1.size) (hn:∀e∈new,e.1=k) (hb:vQ new=(S.take f').drop f) (h1:f<=f') (h2:f'<=c') (hi:zq n (S.take f')=zq n (S.take c')) (ht:t'=(zq n (S.take f')).length) (hl:new.length=t'-t):
 uJ n l k S So (j+1) (out++new) c' co t' tt f' fo:=by
 have hs:=V1 k l hj;rw[if_pos he] at hs;have Gt:c'=(rD k (l.take (j+1))).length:=by rw[hs,aF,<-h.d,zg,hc]
 have hle:=anp k l (j+1);rw[<-Gt,<-h.e] at hle;have hp:=Rw k l (j+1);have hp0:=Rw k l j;rw[<-Gt,<-h.e] at hp;rw[<-h.d,<-h.e] at hp0;have aal:c<=c':=by omega
 have hch:(S.take c').drop c=bl l[j].2.1:=by rw[hp,hs,h.d,kU];rfl
 obtain⟨o1,o2,o3⟩:=zxb n k hk new (lU n K5 out).2 hn;have htt:t<=t':=by rw[h.nn,ht];exact adz n S h1
 have po:=V1 (1-k) l hj;rw[if_neg (by omega),bM] at po;refine⟨?_,?_,?_,hi,h.io,ht,h.nno,h2,h.go,Gt,by rw[po];exact h.dd,h.e,h.eo,by rw[aF,h.len,hl];omega,?_⟩
 ·rw[K7];dsimp only;rw[o1,h.b,hb,ajm n S h.i hi h1 aal,<-dj hj,K7,h.its];dsimp only;rw[lU,lU,ajk n k hk _ _ he,agF n k hk,hch,hp0,bM]
 ·rw[K7];dsimp only;rw[o2,h.b,hb];have:S.take f=(S.take f').take f:=by rw[List.take_take,bN h1]
  rw[this,eP]
 ·rw[K7];dsimp only;rw[o3,h.bo]
 ·rw[abR,h.siz,<-ac9 new,hb,bF,aU,bN (by omega)];omega
theorem uJ.none{n:Int}{l:List Ev}{S So:List Int}{j:Nat}{out:List Ev}{c co t tt f fo:Nat}(h:uJ n l 0 S So j out c co t tt f fo)(hj:j<l.length)(h0:¬l[j].1=0)(h1:¬l[j].1=1):
 uJ n l 0 S So (j+1) out c co t tt f fo:=by
 have hs:=V1 0 l hj;have po:=V1 (1-0) l hj;rw[if_neg h0,bM] at hs;rw[if_neg (by omega),bM] at po;refine⟨?_,h.b,h.bo,h.i,h.io,h.nn,h.nno,h.g,h.go,by rw[hs];exact h.d,by rw[po];exact h.dd,h.e,h.eo,h.len,h.siz⟩;have hn:∀xy,nD n xy l[j]=([],xy):=λxy=>by unfold nD;rw[if_neg h0,if_neg h1]
 rw[<-dj hj,K7,h.its];dsimp only;rw[lU,lU,hn];simp
def two{α:Type}(k:Int)(a b:α):List α:=if k=0 then [a,b] else [b,a]
def U0(p:eY):Bool:=bn p.1.size 1200&&bn p.2.1.size 1200
def okR(r:dC):Bool:=bn r.2.2.2.1.size 1200&&(bn r.2.2.2.2.1.length 300&&r.2.2.2.2.1.all U0)
def K0(s:dt):Bool:=bn s.1.2.2.1.length 200&&(bn s.2.2.1.length 300&&(bn s.2.2.2.1.length 300&&(s.2.2.2.1.all (λc=>bn c.2.1.size 1200)&&(bn s.2.1.1.length 300&&(s.2.1.1.all U0&&(bn s.2.1.2.1.length 300&&s.2.1.2.1.all okR))))))
theorem Sm{l:List eY}(h:l.all U0=true):∀p∈l,p.1.size<=1099511627776/\p.2.1.size<=1099511627776:=λp hp=>by have:=aR.1 h p hp;unfold U0 at this;simp only[ap,Nat.ble_eq] at this;omega
theorem Sn{s:dt}(h:K0 s=true):lO s/\mB s.2.1/\s.1.2.2.1.length<=200/\s.2.2.1.length<=300/\s.2.1.2.1.length<=300/\∀c∈s.2.2.2.1,c.2.1.size<=1200:=by unfold K0 at h;simp only[ap,Nat.ble_eq] at h;obtain⟨h1,h2,h3,h4,h5,h6,h7,h8⟩:=h;have ht:∀c∈s.2.2.2.1,c.2.1.size<=1200:=λc hc=>Nat.le_of_ble_eq_true (aR.1 h4 c hc);refine⟨⟨by rw[zh];omega,by omega,by omega,λc hc=>by have:=ht c hc;omega⟩,⟨⟨by omega,Sm h6⟩,by omega,λr hr=> ?_⟩,h1,h2,h7,ht⟩;have:=aR.1 h8 r hr;unfold okR at this;simp only[ap,Nat.ble_eq] at this;exact⟨by omega,⟨by omega,Sm this.2.2⟩⟩
theorem afA{p q:dt}(hp:K0 p=true)(hq:K0 q=true):jG p q:=by obtain⟨p1,p2,p3,p4,p5,p6⟩:=Sn hp;obtain⟨q1,q2,q3,q4,q5,q6⟩:=Sn hq;exact⟨p1,q1,p2,q2,p3,q3,p4,q4,p5,q5,p6,q6⟩
structure xe(C:Kl)(p q:dt)(n:Int):Prop where
 eq:C=([p,q],n,())
 ok:jG p q
 c0:(nZ p q n).1=0
 inv:s9 p.2.1 p.1 q.1=true
 turn:mE p.2.1=q.2.1
def CB(C:Kl):Bool:=match C.1 with
 | [p,q]=>K0 p&&(K0 q&&(Gi p.2.1.1&&p.2.1.2.1.all λr=>Ft r p.1 q.1))
 |_=>false
theorem alQ{C:Kl}(h:CB C=true)(hc:Dr C=some true)(ht:mE (ah C.1 0 rT).2.1=(ah C.1 1 rT).2.1):∃p q n,xe C p q n:=by
 obtain⟨l,n,u⟩:=C;cases u;unfold CB at h
 match l,h with
 | [p,q],h=>
   simp only[ap] at h;obtain⟨h1,h2,h3,h4⟩:=h;have pk:=afA h1 h2;rw[ac2 p q n pk] at hc;have hc:(nZ p q n).1=0:=by simpa using hc
   refine⟨p,q,n,rfl,pk,hc,?_,ht⟩;unfold s9;rw[zT (AZ.1 hc).mp,h3,h4];rfl
theorem acK{p q:dt}{n:Int}(h:jG p q)(hc:(nZ p q n).1=0)(hi:s9 p.2.1 p.1 q.1=true)(ht:mE p.2.1=q.2.1)(b s:af)(hb:(b.size:Int)<=n)(ho:iq p q n 0 b=(1,s)):iq q p n 0 s=(1,b)/\(s.size:Int)<=n:=by
 have h0:=AZ.1 hc;have hn2:=h0.n2;have e:iq p q n 0 b=mX p q n b:=by unfold iq;rw[if_neg (λe=>e hc),if_pos rfl]
 rw[e] at ho;obtain⟨m,x,m1,m2,m3,m4,x1,x2,x3,x4⟩:=Sg h (b:=b) (s:=s) (by omega) ho;have Nz:vi q.2.1 q.1 p.1 x=(m,pT):=by
  rw[<-ht];rcases zan p.2.1 p.1 q.1 m with⟨f,hf,e⟩|⟨ys,hd,e⟩
  ·rw[e] at m4;injection m4 with _ m4;rw[m4] at hf;exact absurd rfl hf
  ·rw[e] at m4;injection m4 with m4 _
   have:=ai6 hi h.pm m2.ok hd;rw[m4] at this;exact this
 refine⟨?_,x4⟩;unfold iq;rw[if_neg (λe=>e (AZ.2 h0.symm)),if_pos rfl];unfold mX xM;rw[x3,aiH x1 x2];dsimp only;rw[if_neg (λe=>e rfl),Nz];unfold xN;dsimp only;rw[if_neg (λe=>e rfl),m3,if_neg (by omega)]
theorem agh(n:Int)(x s:af)(hx:(ej n (bl x)).1=false/\(ej n (bl x)).2.1=[])(h1:1<=s.size)(h2:(s.size:Int)<=n)(h3:s.size<=65535):
 kj n (bl x) (bl (ml s))=[some s]/\(ej n (bl (x++ml s))).1=false/\(ej n (bl (x++ml s))).2.1=[]:=by
 have hf:=ads n s h1 h3 [];rw[if_neg (by omega),bD] at hf;have hp:ml s=strOf [(s.size:Int)/256,(s.size:Int)% 256]++s:=by unfold ml;rw[if_neg (by omega)]
 rw[<-hp] at hf;have uT:=zak n (bl x) (bl (ml s));rw[hx.1,hx.2,hf] at uT;refine⟨?_,by rw[tR,uT],by rw[tR,uT]⟩;rw[YA,hx.1,hx.2,hf,uT];simp
theorem alO:zB=some true:=by kernel_rfl
def l7(p q:dt)(n:Int):af->List (ae af)->af
 |a,[]=>a
 |a,none::r=>l7 p q n a r
 |a,some b::r=>l7 p q n (if(iq p q n 0 b).1=1 then a++ml (iq p q n 0 b).2 else a) r
def nh(p q:dt)(n:Int):af->List (ae af)->af
 |a,[]=>a
 |a,none::r=>nh p q n a r
 |a,some b::r=>nh p q n (if(iq p q n 0 b).1=1 then a++ml b else a) r
def yL(p q:dt)(n:Int):List (ae af)->List af
 | []=>[]
 |none::r=>yL p q n r
 |some b::r=>if(iq p q n 0 b).1=1 then(iq p q n 0 b).2::yL p q n r else yL p q n r
def qG(q p:dt)(n:Int):af->List af->af
 |a,[]=>a
 |a,s::r=>qG q p n (a++ml (iq q p n 0 s).2) r
theorem za6(p q:dt)(n:Int):∀(x y:List (ae af)) (a:af),l7 p q n a (x++y)=l7 p q n (l7 p q n a x) y
 | [],y,a=>rfl
 |none::x,y,a=>za6 p q n x y a
 |some b::x,y,a=>za6 p q n x y _
theorem za7(p q:dt)(n:Int):∀(x y:List (ae af)) (a:af),nh p q n a (x++y)=nh p q n (nh p q n a x) y
 | [],y,a=>rfl
 |none::x,y,a=>za7 p q n x y a
 |some b::x,y,a=>za7 p q n x y _
theorem zm9(q p:dt)(n:Int):∀(x y:List af) (a:af),qG q p n a (x++y)=qG q p n (qG q p n a x) y
 | [],y,a=>rfl
 |s::x,y,a=>zm9 q p n x y _
theorem HA(b:af):(ml b).size<=b.size+2:=by
 unfold ml;split
 ·exact bS _
 ·rw[cq,wM,Nat.add_comm];exact aZ _
abbrev CR:=Int×af×af×List af×Int×Int×Int×List af×Int×Int×Gw×Gw
def Gk(P:List af)(i:Int)(o:oJ)(s:af×af×Int)(K:af×af×Int->ae CR):ae CR:=
 bif(decide (o.2.1=1)) then(bif(decide (s.2.2<(ag P:Int))) then(bif decide (s.1.size+o.2.2.1.size<=9223372036854775807) then(zd s.2.2 (ag P) ((xg (ah P s.2.2.toNat (bs []))).bind λvd=>(bif decide (s.2.1.size+vd.size<=9223372036854775807) then K (s.1++o.2.2.1,s.2.1++vd,zW zI (s.2.2+1)) else none))) else none) else K (s.1,s.2.1,zW zI (s.2.2+1))) else K (s.1,s.2.1,zW zI (s.2.2+1))
theorem Nn(P:List af)(i:Int)(o:oJ)(s:af×af×Int)(K:af×af×Int->ae CR)(h:¬o.2.1=1):Gk P i o s K=K (s.1,s.2.1,zW zI (s.2.2+1)):=by unfold Gk;rw[zF h,zD]
theorem ana(P:List af)(i:Int)(o:oJ)(a w:af)(x:Nat)(K:af×af×Int->ae CR)(h:o.2.1=1)(hx:x<P.length)(ha:a.size+o.2.2.1.size<=1000000000000)(hb:P[x].size<=70000)(hw:w.size<=1000000000000)(AU:x<=1000000):
 Gk P i o (a,w,(x:Int)) K=K (a++o.2.2.1,w++ml P[x],((x+1:Nat):Int)):=by
 have:=HA P[x];unfold Gk;dsimp only;rw[zT h,zC,zT (by omega),zC,zT (by omega),zC,zi hx,zgx hx,agA _ hb,zc,zT (by omega),zC,zu (by omega)]
section
variable {p q:dt} {n:Int} (h:jG p q) (hc:(nZ p q n).1=0)
include h hc
theorem JF(P:List af)(hP:∀b∈P,b.size<=65535)(UG:P.length<=1000000)(F:af×af×Int->ae CR):∀(J:List (ae af)) (i:Int) (a w:af) (x:Nat) (d:Int),
 (∀(j:Nat) (b:af),J[j]? =some (some b)->P[x+j]? =some b)->x+J.length<=1000000->a.size<=70000*x->w.size<=70000*x->
 fD (Gk P) F (fe p q n d (J.map λi=>((0:Int),i))).1 i (a,w,(x:Int))=F (l7 p q n a J,nh p q n w J,((x+J.length:Nat):Int))
 | [],i,a,w,x,d,_,_,_,_=>rfl
 |it::J,i,a,w,x,d,hJ,hx,ha,hw=>by
  rw[aB] at hx;have hJ':∀(j:Nat) (b:af),J[j]? =some (some b)->P[x+1+j]? =some b:=λj b hb=>by have:=hJ (j+1) b (by simpa using hb);rw[show x+1+j=x+(j+1) by omega];exact this
  have e1:x+(it::J).length=x+1+J.length:=by rw[aB];omega
  rw[bd,fe,fD,e1];have no:∀(o:oJ),(p7 p q n d ((0:Int),it)).1=o->¬o.2.1=1->l7 p q n a (it::J)=l7 p q n a J->nh p q n w (it::J)=nh p q n w J->
   Gk P i (p7 p q n d ((0:Int),it)).1 (a,w,(x:Int)) (fD (Gk P) F (fe p q n (p7 p q n d ((0:Int),it)).2 (J.map λi=>((0:Int),i))).1 (i+1))=F (l7 p q n a (it::J),nh p q n w (it::J),((x+1+J.length:Nat):Int)):=λo ho vn h1 h2=>by
   rw[ho,Nn P i o _ _ vn];dsimp only;rw[zu (by omega),h1,h2];exact JF P hP UG F J (i+1) a w (x+1) _ hJ' (by omega) (by omega) (by omega)
  cases it with
  |none=>exact no _ rfl (by show¬(4:Int)=1;decide) rfl rfl
  |some b=>
   have hx0:P[x]? =some b:=by simpa using hJ 0 b rfl
   obtain⟨AU,UU⟩:=aA.1 hx0;have hbz:b.size<=65535:=hP b (by rw[<-UU];exact b6 AU);have hs:=Le (p:=p) (q:=q) (n:=n) 0 b;have st:p7 p q n d ((0:Int),some b)=rC p q n 0 d b:=rfl;rcases PT h hc (.inl rfl) b (by omega) with⟨h3,_⟩|⟨h12,h4⟩
   ·refine no ((0:Int),3,bs [],zW zI (d+1),()) (by rw[st];unfold rC;rw[if_pos h3]) (by show¬(3:Int)=1;decide) ?_ ?_
    ·rw[l7,if_neg (by omega)]
    ·rw[nh,if_neg (by omega)]
   by_cases h1:(iq p q n 0 b).1=1
   case neg=>
    refine no ((0:Int),(iq p q n 0 b).1,ml (iq p q n 0 b).2,d,()) (by rw[st];unfold rC;rw[if_neg (by omega),if_neg h1]) h1 ?_ ?_
    ·rw[l7,if_neg h1]
    ·rw[nh,if_neg h1]
   ·have hp:rC p q n 0 d b=((1,1,ml (iq p q n 0 b).2,d,()),d):=by unfold rC;rw[if_neg (by omega),if_pos h1];rfl
    have hq:=HA (iq p q n 0 b).2;have N6:=HA b;rw[st,hp,ana P i _ a w x _ rfl AU (by show a.size+(ml (iq p q n 0 b).2).size<=_;omega) (by rw[UU];omega) (by omega) (by omega)];rw[JF P hP UG F J (i+1) _ _ (x+1) d hJ' (by omega) (by rw[cq];show a.size+(ml (iq p q n 0 b).2).size<=_;omega) (by rw[cq,UU];omega),l7,nh,if_pos h1,if_pos h1,UU]
theorem aiz(cut:Int)(P:List af)(hP:∀b∈P,b.size<=65535)(UG:P.length<=1000000)(e1 e2:Int)(G:Gw)(l:List af)(hl:l.length+sizes l<=100000)(sY:∀(j:Nat) (b:af),(zq n ((l.map bl).flatten))[j]? =some (some b)->P[j]? =some b):
 ∀(m j k:Nat) (x:af) (d:Int),j+m=l.length->m<k->bl x++((l.drop j).map bl).flatten=(l.map bl).flatten->
 J8 k cut (l7 p q n (bs []) (zq n (bl x))) (nh p q n (bs []) (zq n (bl x))) P (((zq n (bl x)).length:Nat):Int) e1 e2 l (l.length:Int) (j:Int) (gw ([p,q],n,()) n x (bs []) d) G=
  some (cut,l7 p q n (bs []) (zq n ((l.map bl).flatten)),nh p q n (bs []) (zq n ((l.map bl).flatten)),e2,G):=by
 have hz:(bs []).size=0:=rfl;have Ah:((l.map bl).flatten).length=sizes l:=by rw[<-VQ,zg,zs3]
 intro m
 induction m with
 |zero=>
  intro j k x d hj hk hx;obtain⟨k,rfl⟩:∃k',k=k'+1:=⟨k-1,by omega⟩
  rw[J8,Th,zF (by omega),zD];rw[aK (by omega)] at hx;have hx:bl x=(l.map bl).flatten:=by simpa using hx
  rw[hx]
 |succ m ih=>
  intro j k x d hj hk hx;obtain⟨k,rfl⟩:∃k',k=k'+1:=⟨k-1,by omega⟩
  have bR:j<l.length:=by omega
  rw[aO bR,bd,List.flatten_cons] at hx;have hlen:=congrArg ag hx;rw[aF,aF,zg,zg,Ah] at hlen;have yN:bl (x++l[j])++((l.drop (j+1)).map bl).flatten=(l.map bl).flatten:=by rw[tR,aQ];exact hx
  have hI:zq n (bl (x++l[j]))=zq n (bl x)++kj n (bl x) (bl l[j]):=by rw[tR];exact CP n _ _
  have hfI:zq n ((l.map bl).flatten)=zq n (bl x)++kj n (bl x) (bl l[j])++kj n (bl (x++l[j])) (((l.drop (j+1)).map bl).flatten):=by rw[<-yN,CP,hI]
  have hil:∀s:List Int,(zq n s).length<=s.length+1:=λs=>by have h2:=PM n [] s;have h3:=CP n [] s;rw[SH,bD,bD] at h3;rw[h3];exact h2
  have aar:=hil (bl (x++l[j]));rw[hI,aF,zg,cq] at aar;have hE:nD n (x,bs []) ((0:Int),l[j],())=((kj n (bl x) (bl l[j])).map λi=>((0:Int),i),(x++l[j],bs [])):=by unfold nD;rw[if_pos rfl]
  have aaj:∀(J:List (ae af)) (a:af),(∀b,some b∈J->b.size<=65535)->(l7 p q n a J).size<=a.size+70000*J.length/\(nh p q n a J).size<=a.size+70000*J.length:=by
   intro J
   induction J with
   |nil=>intro a _;exact⟨by rw[l7];omega,by rw[nh];omega⟩
   |cons it J UY=>
    intro a hJ;cases it with
    |none=>have:=UY a (λb hb=>hJ b (by simp [hb]));rw[l7,nh,aB];omega
    |some b=>
     have hb:=hJ b (by simp);have hs:=Le (p:=p) (q:=q) (n:=n) 0 b;have hq:=HA (iq p q n 0 b).2;have N6:=HA b;rw[l7,nh,aB];by_cases h1:(iq p q n 0 b).1=1
     ·rw[if_pos h1,if_pos h1];have i1:=(UY (a++ml (iq p q n 0 b).2) (λb hb=>hJ b (by simp [hb]))).1;have i2:=(UY (a++ml b) (λb hb=>hJ b (by simp [hb]))).2;rw[cq] at i1 i2;omega
     ·rw[if_neg h1,if_neg h1];have:=UY a (λb hb=>hJ b (by simp [hb]));omega
  have gL:∀b,some b∈zq n (bl x)->b.size<=65535:=λb hb=>by obtain⟨j',GG⟩:=List.mem_iff_getElem?.1 hb;have Iw:=(aA.1 GG).1;have:=sY j' b (by rw[hfI,aQ,bj Iw];exact GG);exact hP b (aL this)
  obtain⟨s1,s2⟩:=aaj (zq n (bl x)) (bs []) gL;rw[J8,Th,zT (by omega),zC,zi bR,zgx bR,zxr p q n d h x (bs []) _ (by dsimp only;omega),zc,hE];dsimp only;have:=jJ ((0:Int),(0:Int),bs [],(0:Int),()) (fe p q n d ((kj n (bl x) (bl l[j])).map λi=>((0:Int),i))).1 (by rw[Vh,cf,zh];omega) (Gk P)
   (λs=>some (cut,s.1,s.2.1,P,s.2.2,e1,e2,l,(l.length:Int),(j:Int),gw ([p,q],n,()) n (x++l[j]) (bs []) (fe p q n d ((kj n (bl x) (bl l[j])).map λi=>((0:Int),i))).2,G))
   (λk i s=>Te k cut s.1 s.2.1 P s.2.2 e1 e2 l (l.length:Int) (j:Int) (fe p q n d ((kj n (bl x) (bl l[j])).map λi=>((0:Int),i))).1 ((fe p q n d ((kj n (bl x) (bl l[j])).map λi=>((0:Int),i))).1.length:Int) i (gw ([p,q],n,()) n (x++l[j]) (bs []) (fe p q n d ((kj n (bl x) (bl l[j])).map λi=>((0:Int),i))).2) G)
   (λk i s=>rfl) (l7 p q n (bs []) (zq n (bl x)),nh p q n (bs []) (zq n (bl x)),(((zq n (bl x)).length:Nat):Int))
  refine(congrArg (λo=>iE o _) (this.trans (JF h hc P hP UG _ (kj n (bl x) (bl l[j])) 0 _ _ _ d (λj' b hb=> ?_) (by omega) (by omega) (by omega)))).trans ?_
  ·have Iw:=(aA.1 hb).1;refine sY _ b ?_;rw[hfI,aQ,bc (by omega),Nat.add_sub_cancel_left,bj Iw];exact hb
  rw[zc];unfold Wv;dsimp only;rw[<-za6,<-za7,<-aF,<-hI,zu (by omega)];exact ih (j+1) k (x++l[j]) _ (by omega) (by omega) yN
end
end eD

namespace eD
open Go.IntKind renaming wrap->zW,i64->zI,u8->zU
open Go Go.Ref
def uq:Kl:=(BB).getD ([],0,())
theorem aje:BB=some uq:=by kernel_rfl
theorem acI:CB uq=true:=by kernel_rfl
theorem acJ:Dr uq=some true:=by kernel_rfl
theorem adA:mE (ah uq.1 0 rT).2.1=(ah uq.1 1 rT).2.1:=by kernel_rfl
theorem ajf:∃p q n,xe uq p q n:=alQ acI acJ adA
structure sL(p q:dt)(n:Int)(s:af):Prop where
 lo:1<=s.size
 hi:(s.size:Int)<=n
 s16:s.size<=65535
 back:(iq q p n 0 s).1=1
section
variable {C:Kl} {p q:dt} {n:Int} (hL:xe C p q n)
include hL
theorem Vv:∀(I:List (ae af)) (x w:af),(∀b,some b∈I->qC n b)->(ej n (bl x)).1=false/\(ej n (bl x)).2.1=[]->
 zq n (bl (l7 p q n x I))=zq n (bl x)++(yL p q n I).map some/\nh p q n w I=qG q p n w (yL p q n I)/\(∀s∈yL p q n I,sL p q n s)/\(l7 p q n x I).size<=x.size+70000*I.length
 | [],x,w,_,_=>⟨by rw[l7,yL];simp,rfl,λs hs=>(by rw[yL] at hs;cases hs),by rw[l7];omega⟩
 |none::I,x,w,hI,hx=>by obtain⟨i1,i2,i3,i4⟩:=Vv I x w (λb hb=>hI b (by simp [hb])) hx;rw[l7,nh,yL,aB];exact⟨i1,i2,i3,by omega⟩
 |some b::I,x,w,hI,hx=>by
  have hI':∀b,some b∈I->qC n b:=λb hb=>hI b (by simp [hb]);obtain⟨o1,o2⟩:=hI b (by simp);have h0:=AZ.1 hL.c0;have hn2:=h0.n2;rw[l7,nh,yL,aB];by_cases h1:(iq p q n 0 b).1=1
  case neg=>rw[if_neg h1,if_neg h1,if_neg h1];obtain⟨i1,i2,i3,i4⟩:=Vv I x w hI' hx;exact⟨i1,i2,i3,by omega⟩
  rw[if_pos h1,if_pos h1,if_pos h1];have hs:=Le (p:=p) (q:=q) (n:=n) 0 b;obtain⟨b1,b2⟩:=acK hL.ok hL.c0 hL.inv hL.turn b (iq p q n 0 b).2 o2 (Prod.ext h1 rfl);rcases PT hL.ok hL.c0 (.inl rfl) b (by omega) with⟨h3,_⟩|⟨_,h4⟩
  ·rw[h3] at h1;exact absurd h1 (by decide)
  generalize(iq p q n 0 b).2=s at*;obtain⟨f1,f2,f3⟩:=agh n x s hx h4 b2 hs;obtain⟨i1,i2,i3,i4⟩:=Vv I (x++ml s) (w++ml b) hI' ⟨f2,f3⟩;have ri:=HA s;refine⟨?_,?_,?_,?_⟩
  ·rw[i1,tR,CP,f1,aQ];rfl
  ·rw[i2,qG,b1]
  ·intro t ht;rcases aD.1 ht with ht|ht
   ·rw[ht];exact⟨h4,b2,hs,by rw[b1]⟩
   ·exact i3 t ht
  ·rw[cq] at i4;omega
abbrev C3:=ae (Sum (Bool×af×af×Int×af×Int×Int×Gw) (af×af×Int×af×Int×Int×Gw))
omit hL in
def H4(t10 t11:af)(t21 t23 e2:Int)(G:Gw)(i:Int)(o:oJ)(s:af)(K:af->C3):C3:=
 bif(!(decide (o.2.1=1))) then some (.inl (false,t10,t11,t21,s,t23,e2,G)) else(bif(!(decide (o.1=1))) then some (.inl (false,t10,t11,t21,s,t23,e2,G)) else(bif decide (s.size+o.2.2.1.size<=9223372036854775807) then K (s++o.2.2.1) else none))
omit hL in
theorem PU{s:af}(hs:sL p q n s):rC q p n 0 0 s=((1,1,ml (iq q p n 0 s).2,0,()),0):=by unfold rC;rw[if_neg (by rw[hs.back];decide),if_pos hs.back];rfl
omit hL in
theorem zzi:∀(J:List af),(∀s∈J,sL p q n s)->(fe q p n 0 ((J.map some).map λi=>((0:Int),i))).2=0
 | [],_=>rfl
 |s::J,hJ=>by rw[bd,bd,fe,show p7 q p n 0 ((0:Int),some s)=rC q p n 0 0 s from rfl,PU (hJ s (by simp))];exact zzi J λs hs=>hJ s (by simp [hs])
omit hL in
theorem QX(t10 t11:af)(t21 t23 e2:Int)(G:Gw)(F:af->C3):∀(J:List af) (i:Int) (a:af),(∀s∈J,sL p q n s)->a.size+70000*J.length<=1000000000000->
 fD (H4 t10 t11 t21 t23 e2 G) F (fe q p n 0 ((J.map some).map λi=>((0:Int),i))).1 i a=F (qG q p n a J)
 | [],i,a,_,_=>rfl
 |s::J,i,a,hJ,ha=>by have hs:=Le (p:=q) (q:=p) (n:=n) 0 s;have hq:=HA (iq q p n 0 s).2;rw[aB] at ha;rw[bd,bd,fe,show p7 q p n 0 ((0:Int),some s)=rC q p n 0 0 s from rfl,PU (hJ s (by simp)),fD,H4];dsimp only;rw[zT rfl,ai,zD,zD,zT (by omega),zC,QX t10 t11 t21 t23 e2 G F J (i+1) _ (λs hs=>hJ s (by simp [hs])) (by rw[cq];omega),qG]
theorem aiA(S:List Int)(want:af)(size e2:Int)(lL:1<=size/\size<=7)(F:List af)(hF:∀s∈F,sL p q n s)(hS:zq n S=F.map some)(hFl:F.length<=1000000)(hw:want=qG q p n (bs []) F)(hSl:S.length<=100000000000):
 ∀(m k:Nat) (t10 x:af) (J:List af),t10.size<=m->m<k->bl x++bl t10=S->zq n (bl x)=J.map some->
 Hv k t10 want size (qG q p n (bs []) J) e2 (gw ([q,p],n,()) n x (bs []) 0)=some (.inl (want,want)):=by
 have hz:(bs []).size=0:=rfl;have aak:∀(J:List af) (a:af),(∀s∈J,sL p q n s)->(qG q p n a J).size<=a.size+70000*J.length:=by
  intro J
  induction J with
  |nil=>intro a _;rw[qG];omega
  |cons s J ih=>intro a hJ;have hs:=Le (p:=q) (q:=p) (n:=n) 0 s;have hq:=HA (iq q p n 0 s).2;have:=ih (a++ml (iq q p n 0 s).2) (λs hs=>hJ s (by simp [hs]));rw[cq] at this;rw[qG,aB];omega
 intro m
 induction m with
 |zero=>
  intro k t10 x J hm hk hx hJ;obtain⟨k,rfl⟩:∃k',k=k'+1:=⟨k-1,by omega⟩
  have H8:t10=bs []:=by apply A7;exact bp (by rw[zg];omega)
  have hxS:bl x=S:=by rw[<-hx,H8];show bl x=bl x++ [];rw[bM]
  have hJF:J=F:=by rw[hxS,hS] at hJ;exact(List.map_inj_right (λa b e=>by injection e)).1 hJ.symm
  rw[Hv,Lm,zT H8,ai,zD,hJF,<-hw]
 |succ m ih=>
  intro k t10 x J hm hk hx hJ;obtain⟨k,rfl⟩:∃k',k=k'+1:=⟨k-1,by omega⟩
  by_cases H8:t10=bs []
  ·have hxS:bl x=S:=by rw[<-hx,H8];show bl x=bl x++ [];rw[bM]
   have hJF:J=F:=by rw[hxS,hS] at hJ;exact(List.map_inj_right (λa b e=>by injection e)).1 hJ.symm
   rw[Hv,Lm,zT H8,ai,zD,hJF,<-hw]
  have aaA:0<t10.size:=by
   rcases Nat.eq_zero_or_pos t10.size with h|h
   ·exact absurd (A7 (bp (by rw[zg];exact h))) H8
   ·exact h
  obtain⟨c,Gt,B9,hc2⟩:∃c:Nat,(if(t10.size:Int)<size then(t10.size:Int) else size)=(c:Int)/\1<=c/\c<=t10.size:=by
   by_cases bR:(t10.size:Int)<size
   ·exact⟨t10.size,by rw[if_pos bR],aaA,aZ _⟩
   ·exact⟨size.toNat,by rw[if_neg bR];omega,by omega,by omega⟩
  have hlen:=congrArg ag hx;rw[aF,zg,zg] at hlen;have uU:bl (t10.extract 0 c)=(bl t10).take c:=by rw[xU];rfl
  have tA:bl (t10.extract c t10.size)=(bl t10).drop c:=by rw[xU,bV (by rw[zg];exact aZ _)]
  have yN:bl (x++t10.extract 0 c)++bl (t10.extract c t10.size)=S:=by rw[tR,uU,tA,aQ,eP,hx]
  have hI:zq n (bl (x++t10.extract 0 c))=J.map some++kj n (bl x) (bl (t10.extract 0 c)):=by rw[tR,CP,hJ]
  have sY:F.map some=J.map some++(kj n (bl x) (bl (t10.extract 0 c))++kj n (bl (x++t10.extract 0 c)) (bl (t10.extract c t10.size))):=by rw[<-hS,<-yN,CP,hI,aQ]
  obtain⟨J1,hJ1⟩:∃J1:List af,kj n (bl x) (bl (t10.extract 0 c))=J1.map some:=by refine⟨(F.drop J.length).take (kj n (bl x) (bl (t10.extract 0 c))).length,?_⟩;rw[List.map_take,List.map_drop,sY,kU (by rw[cf]),kX rfl]
  have hFJ:F.map some=(J++J1).map some++kj n (bl (x++t10.extract 0 c)) (bl (t10.extract c t10.size)):=by rw[sY,hJ1,cg,aQ]
  have NR:=congrArg ag hFJ;rw[aF,cf,cf,aF] at NR;have gL:∀s∈J++J1,sL p q n s:=λs hs=>by
   have:some s∈F.map some:=by rw[hFJ];exact cI _ (List.mem_map_of_mem hs)
   obtain⟨s',h1,h2⟩:=bm.1 this;injection h2 with h2
   exact hF s (h2▸h1)
  have hE:nD n (x,bs []) ((0:Int),t10.extract 0 c,())=((J1.map some).map λi=>((0:Int),i),(x++t10.extract 0 c,bs [])):=by unfold nD;rw[if_pos rfl,hJ1]
  have hez:(t10.extract 0 c).size=c:=by rw[<-zg,uU,aU,zg];omega
  have hcJ:=aak J (bs []) λs hs=>gL s (cI _ hs);rw[Hv,Lm,zF H8,aY,zC,Gt,zT (by omega),zC,zT (by omega),zC,ar,zxr q p n 0 hL.ok.symm x (bs []) _ (by dsimp only;omega),zc,hE];dsimp only;rw[zzi J1 λs hs=>gL s (ea _ hs)];have:=jJ ((0:Int),(0:Int),bs [],(0:Int),()) (fe q p n 0 ((J1.map some).map λi=>((0:Int),i))).1 (by rw[Vh,cf,cf,zh];omega) (H4 t10 want size (c:Int) e2 (gw ([q,p],n,()) n (x++t10.extract 0 c) (bs []) 0))
   (λs=>some (.inr (t10,want,size,s,(c:Int),e2,gw ([q,p],n,()) n (x++t10.extract 0 c) (bs []) 0)))
   (λk i s=>Tf k t10 want size s (c:Int) e2 (fe q p n 0 ((J1.map some).map λi=>((0:Int),i))).1 ((fe q p n 0 ((J1.map some).map λi=>((0:Int),i))).1.length:Int) i (gw ([q,p],n,()) n (x++t10.extract 0 c) (bs []) 0))
   (λk i s=>rfl) (qG q p n (bs []) J)
  refine(congrArg (λo=>iE o _) (this.trans (QX t10 want size (c:Int) e2 _ _ J1 0 _ (λs hs=>gL s (ea _ hs)) (by omega)))).trans ?_;rw[zc,cj];unfold zip;dsimp only;rw[zT (by omega),zC,zT (by omega),zC,ar,<-zm9];exact ih k (t10.extract c t10.size) (x++t10.extract 0 c) (J++J1) (by rw[<-zg,tA,bF,zg];omega) (by omega) yN (by rw[hI,hJ1,cg])
end
theorem tQ(l:List af)(cut:Int)(hl:Wf (.sl 0 .str) l)(hk:Wf (.int .i64) cut):Bj l cut=some true:=by
 obtain⟨b,hb,hs⟩:=alL l 2500 (by omega) (by omega) (O9 hl);unfold Bj Wt;rw[alO,zc,ai,zD,hb,zc];cases b with
 |true=>rw[zC,zc]
 |false=>
 have hs:=hs rfl;obtain⟨p,q,n,hL⟩:=ajf;have hc:=hL.c0;have hc':(nZ q p n).1=0:=AZ.2 (AZ.1 hc).symm;have h0:=AZ.1 hc;have hn2:=h0.n2;have hz:(bs []).size=0:=rfl;rw[zD,aje,zc,hL.eq,O3 p q n hL.ok,zc,if_pos hc,cj,ad0,zc,O3 q p n hL.ok.symm,zc,if_pos hc',cj];have hj:=zs3 l;have hbj:(bl (iX l)).length=sizes l:=by rw[zg,hj]
 rw[aj2 l (by have:=O9 hl;exact this) (by omega),zc,zof n (iX l) (by omega),zc];dsimp only;have aaG:=ajG n (bl (iX l)) (λx hx=>su hx);have hP:(od n 0 (bl (iX l))).1=(ej n (bl (iX l))).2.2:=by rw[aaG]
 have hlen:=(zoi n (bl (iX l))).2;have N2:∀b∈(ej n (bl (iX l))).2.2,qC n b:=(aiV n (bl (iX l)) (false,[],[]) (λx hx=>su hx) (by simp) (.inl (by simp)) (by simp)).2;rw[hP];have sY:∀(j:Nat) (b:af),(zq n ((l.map bl).flatten))[j]? =some (some b)->(ej n (bl (iX l))).2.2[j]? =some b:=λj b KR=>by
  rw[<-VQ] at KR;unfold zq at KR;rcases Nat.lt_or_ge j ((ej n (bl (iX l))).2.2.map some).length with h|h
  ·rw[bj h,List.getElem?_map] at KR;obtain⟨y,h1,h2⟩:=Option.map_eq_some_iff.1 KR;injection h2 with h2
   rw[h1,h2]
  ·rw[bc h] at KR;have:=aL KR;split at this
   ·simp at this
   ·cases this
 have e1:=aiz hL.ok hc cut (ej n (bl (iX l))).2.2 (λb hb=>by have:=(N2 b hb).2;omega) (by omega) 0 0 (gw ([q,p],n,()) n (bs []) (bs []) 0) l (by omega) sY l.length 0 bG (bs []) 0 (by omega) (by rw[zv];omega) (by rw[aN];rfl);rw[show bl (bs [])=[] from rfl,SH,show((0:Nat):Int)=0 from rfl] at e1;refine(congrArg (λo=>iE o _) e1).trans ?_;rw[zc];unfold Wu;dsimp only;rw[<-VQ];have gL:∀b,some b∈zq n (bl (iX l))->qC n b:=λb hb=>by
  unfold zq at hb;rcases aT.1 hb with hb|hb
  ·obtain⟨y,h1,h2⟩:=bm.1 hb;injection h2 with h2
   exact h2▸N2 y h1
  ·split at hb
   ·simp at hb
   ·cases hb
 obtain⟨a1,a2,a3,a4⟩:=Vv hL (zq n (bl (iX l))) (bs []) (bs []) gL ⟨rfl,rfl⟩;rw[show zq n (bl (bs []))=[] from SH n,bD] at a1;have hil:(zq n (bl (iX l))).length<=sizes l+1:=by have h2:=PM n [] (bl (iX l));have h3:=CP n [] (bl (iX l));rw[SH,bD,bD] at h3;rw[h3,<-hbj];exact h2
 have hFl:(yL p q n (zq n (bl (iX l)))).length<=(zq n (bl (iX l))).length:=by
  generalize zq n (bl (iX l))=I
  induction I with
  |nil=>exact aZ _
  |cons i I ih=>
   cases i with
   |none=>rw[yL,aB];omega
   |some b=>
    rw[yL,aB];split
    ·rw[aB];omega
    ·omega
 have hu:=zxo cut;have hm7:0<=cB (IntKind.u64.wrap cut) 7/\cB (IntKind.u64.wrap cut) 7<7:=by
  have h1:0<=IntKind.u64.wrap cut:=by rw[hu];omega
  rw[dS h1];omega
 rw[zj (x:=cB (IntKind.u64.wrap cut) 7) (by omega) (by omega),zj (by omega) (by omega)];have e2:=aiA hL (bl (l7 p q n (bs []) (zq n (bl (iX l))))) (nh p q n (bs []) (zq n (bl (iX l)))) (1+cB (IntKind.u64.wrap cut) 7) 0 (by omega) (yL p q n (zq n (bl (iX l)))) a3 a1 (by omega) a2 (by rw[zg];omega)
  (l7 p q n (bs []) (zq n (bl (iX l)))).size bG (l7 p q n (bs []) (zq n (bl (iX l)))) (bs []) [] (aZ _) (by rw[zv];omega) rfl (SH n)
 refine(congrArg (λo=>iE o _) e2).trans ?_;rw[zc,Sum.elim_inl];unfold Ww;dsimp only;rw[zT rfl]
end eD

