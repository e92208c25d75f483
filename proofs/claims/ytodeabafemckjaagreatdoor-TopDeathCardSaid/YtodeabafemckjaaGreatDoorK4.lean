/- No condition. -/
import Derived.Test.YtodeabafemckjaaGreatDoorK3
import Derived.Test.YtodeabafemckjaaGreatDoorProg
set_option linter.unusedVariables false
set_option linter.unusedSimpArgs false
set_option maxRecDepth 100000
open Bool renaming not_true->ai,and_eq_true->ar,not_false->aV,or_eq_false_iff->cF,false_or->dx
open ByteArray renaming size_extract->b9,size_append->ci,append_assoc->gV
open Go.Proofs.Builder renaming Extra->gF
open Go.Proofs.Tryz renaming prog->aj,f137->bB,prog->eB,underlying129->fp,underlying131->fq,underlying92->fC,zeroValue129->fD,zeroValue131->fE,underlying0->fN,underlying3->fO,underlying9->fQ,zeroValue92->fR,underlying5->fP,zeroValue0->gb,zeroValue3->gd,zeroValue9->gh,zeroValue5->gf,sizeOf129->gx,sizeOf131->gy,sizeOf92->gI,isAgg129->gG,isAgg131->gH,sizeOf0->gX,sizeOf3->gY,sizeOf9->hD,isAgg92->gW,sizeOf5->gZ,isAgg0->ii,isAgg3->ij,isAgg9->im,isAgg5->il,underlying133->iC,underlying240->iE,underlying194->iD,underlying20->iS,zeroValue133->iT,zeroValue240->iV,zeroValue194->iU,underlying4->ji,zeroValue20->jj,f83->gL,f81->gK,zeroValue4->jq,sizeOf133->jA,sizeOf240->jC,sizeOf194->jB,sizeOf20->jW,isAgg133->jT,isAgg240->jV,isAgg194->jU,sizeOf4->kc,isAgg20->kb,isAgg4->kB,f124->jF,f82->kz,f74->kx,f35->kv,f80->ky
open Go.Shelf renaming Ren->lZ
open Int renaming toNat_natCast->aw
open List renaming length->ag,getD->ah,getD_eq_getElem?_getD->aq,mem_cons_of_mem->aG,length_cons->aF,length_append->aJ,mem_cons->aH,drop_eq_nil_of_le->aP,drop_eq_getElem_cons->aM,drop_zero->aO,mem_cons_self->aW,mem_append->aR,length_take->aU,append_assoc->bd,map_cons->bq,append_nil->bY,nil_append->b6,length_singleton->cj,mem_of_find?_eq_some->cn,foldl_cons->cw,map_append->cz,length_nil->cL,take_append_getElem->de,length_map->dG,take_zero->cX,filter_eq_self->dK,mem_append_right->dT,take_append_drop->fG,map_nil->eH,foldl_append->dE,filter_cons_of_neg->j5,append_cancel_left->j4
open Nat renaming beq->ak,le_refl->bg,min_eq_left->bL,zero_le->bR
open Sum renaming elim->aA,elim_inr->cc
namespace eL
open Go.IntKind renaming wrap->zW,i64->zI,u8->zU
open Go Go.Ref
theorem acP{r:dN}{b:zf}{t:af}(ht:t.size<=1099511627776)(hr:nF r):(oN r b t).1.2.1.size<=1099511627776:=by
 have h0:(bs []).size<=1099511627776:=by decide
 unfold oN;cases decide (r.1=1) with
 |true=>exact ht
 |false=>
  rw[zD];cases decide (r.1=2) with
  |true=>exact h0
  |false=>
   rw[zD];cases decide (r.1=3) with
   |true=>exact hr.text
   |false=>
    rw[zD];cases decide (r.1=4) with
    |true=>
     rw[zC];cases eP b r.2.2.1 with
     |false=>exact h0
     |true=>
      rw[ai,zD];cases hp:(nZ t (dv b r.2.2.1).2.2.2.1).2 with
      |false=>exact h0
      |true=>obtain⟨p1,p2,p3,p4⟩:=RV hp;show(nZ t (dv b r.2.2.1).2.2.2.1).1.size<=_;omega
    |false=>
     rw[zD];cases decide (r.1=5) with
     |true=>
      rw[zC];cases hp:(zw r.2.2.2.2.1 t).2 with
      |false=>exact h0
      |true=>obtain⟨p,hm,_,hq⟩:=zcz hp;show(zw r.2.2.2.2.1 t).1.size<=_;rw[hq];exact(hr.nR.sz p hm).2
     |false=>exact h0
theorem zhk{m:Map}{b:zf}:∀{l:List eD} {f:gS},sC m b l= .inl f->f.1≠0
 | [],f,h=>by cases h
 |v::r,f,h=>by
  rw[sC] at h;cases hf:nx m v.1 with
  |none=>rw[hf] at h;cases h;exact(by decide:(9:Int)≠0)
  |some q=>
   rw[hf] at h;dsimp only at h;by_cases hz:(oN q b v.2.1).2=0
   ·rw[zT hz,ai,zD] at h;cases hr:sC m b r with
    |inl g=>rw[hr] at h;cases h;exact zhk hr
    |inr ys=>rw[hr] at h;cases h
   ·rw[zF hz,aV,zC] at h;cases h;exact hz
structure jh(m:Map)(a b:zf)(x:fX)(ys:List eD):Prop where
 map:nm m a b
 msg:sJ a x
 head:(zw m.1 x.1).2=true
 Ct:sC m b x.2.1= .inr ys
theorem adh(m:Map)(a b:zf)(x:fX):(∃f,f.1≠0/\Af m a b x=(lY,f))\/∃ys,jh m a b x ys/\Af m a b x=(((zw m.1 x.1).1,vS (ys++rD m.2.1) 127 2,()),sD):=by
 rw[zuj];unfold zui;by_cases h1:(lX m a b).1=0
 ·rw[zT h1,ai,zD];by_cases h2:(oY a x).1=0
  ·rw[zT h2,ai,zD];cases h3:(zw m.1 x.1).2 with
   |false=>exact .inl ⟨_,by decide,rfl⟩
   |true=>
    rw[ai,zD];cases h4:sC m b x.2.1 with
    |inl f=>exact .inl ⟨f,zhk h4,rfl⟩
    |inr ys=>exact .inr ⟨ys,⟨zpn.1 h1,Tf.1 h2,h3,h4⟩,rfl⟩
  ·rw[zF h2];exact .inl ⟨_,h2,rfl⟩
 ·rw[zF h1];exact .inl ⟨_,by decide,rfl⟩
theorem jh.eq{m:Map}{a b:zf}{x:fX}{ys:List eD}(h:jh m a b x ys):Af m a b x=(((zw m.1 x.1).1,vS (ys++rD m.2.1) 127 2,()),sD):=by rw[zuj];unfold zui;rw[zT (zpn.2 h.map),ai,zD,zT (Tf.2 h.msg),ai,zD,h.head,h.Ct];rfl
section
variable {m:Map} {a b:zf} {x:fX} {ys:List eD}
theorem jh.qZ(h:jh m a b x ys):(∀v∈x.2.1,eP a v.1=true/\fK (dv a v.1) v.2.1=0)/\rM x.2.1/\∀v∈x.2.1,0<v.1:=Js.1 h.msg.qZ
theorem jh.ris(h:jh m a b x ys):rM (vS (ys++rD m.2.1) 127 2):=by obtain⟨g1,g2,g3⟩:=h.qZ;refine zd5 ?_ 127 2 (by omega);rw[zi5,zi6 h.map];exact zt7 (zzs h.map g2 (λv hv=>(g1 v hv).1) h.Ct)
theorem jh.mem(h:jh m a b x ys)(v:eD):v∈vS (ys++rD m.2.1) 127 2↔v∈rD m.2.1\/(v∈ys/\v.1≠0):=by
 rw[Vz,aR];have hr:=zzt h.map h.Ct;constructor
 ·rintro⟨h1|h1,h2,h3⟩
  ·exact .inr ⟨h1,by omega⟩
  ·exact .inl h1
 ·rintro(h1|⟨h1,h2⟩)
  ·have:=Jw h.map.okB (hr v (List.mem_append_left _ h1));exact⟨.inr h1,by omega,by omega⟩
  ·have:=Jw h.map.okB (hr v (dT _ (KZ.2 ⟨h1,h2⟩)));exact⟨.inl h1,by omega,by omega⟩
theorem jh.valid(h:jh m a b x ys)(hm:mL m)(hx:nq x):∀v∈vS (ys++rD m.2.1) 127 2,eP b v.1=true/\v.2.1.size<=1099511627776/\fK (dv b v.1) v.2.1=0:=by
 intro v hv;obtain⟨g1,g2,g3⟩:=h.qZ;rcases(h.mem v).1 hv with hv|⟨hv,hz⟩
 ·obtain⟨r,hr,k,rfl⟩:=VC.1 hv;have hc:=(VH (h.map.rules r hr)).2.2.2;unfold sd at hc;rw[zF (by omega:¬r.1=1),zT k,zD,zC] at hc;exact⟨h.map.to hr (by omega),(hm.rules r hr).text,hc⟩
 ·obtain⟨w,hw,q,hf,h0,rfl⟩:=SM h.Ct v hv;obtain⟨b1,b2⟩:=S0 h0 hz;obtain⟨qm,qf⟩:=KW hf;have hwt:=hx.Aq w hw;have:=(acQ (r:=q) (a:=a) (b:=b) hwt (hm.rules q qm) (h.map.rules q qm) h.map.okB (λ_=>by rw[qf];exact(g1 w hw).2)).2 h0;obtain⟨e1,e2,e3⟩:=this.2 b1;rw[b2];exact⟨e2,acP hwt (hm.rules q qm),e3⟩
theorem ahN{t:af}{v:Int}(h:qa t v=true):n8 t=true/\oM t=v:=by unfold qa at h;rw[ar,decide_eq_true_eq] at h;refine⟨h.1,?_⟩;unfold oM;rw[h.1];exact h.2
theorem jh.Cd(h:jh m a b x ys):n8 (zw m.1 x.1).1=true/\oM (zw m.1 x.1).1=b.2.1:=by obtain⟨p,hp,_,e⟩:=zcz h.head;have ht:=h.map.typed p hp;unfold vX at ht;rw[ar,ar] at ht;rw[e];exact ahN ht.2.1
theorem jh.out(h:jh m a b x ys)(hm:mL m)(hx:nq x):sJ b ((zw m.1 x.1).1,vS (ys++rD m.2.1) 127 2,()):=by have hv:=h.valid hm hx;refine⟨h.map.sb,h.Cd.1,h.Cd.2,Js.2 ⟨λv hm=>⟨(hv v hm).1,(hv v hm).2.2⟩,h.ris,λv hm=> ?_⟩⟩;have:=Jw h.map.okB (hv v hm).1;omega
end
theorem zzj:∀{l:List eD} {lo:Int},rM l->(∀v∈l,lo<v.1/\v.1<=128)->(l.length:Int)<=max 0 (128-lo)
 | [],lo,_,_=>by simp;omega
 |x::r,lo,h,hr=>by have h:=List.pairwise_cons.1 h;have hx:=hr x aW;have:=zzj (l:=r) (lo:=x.1) h.2 (λv hv=>⟨h.1 v hv,(hr v (aG _ hv)).2⟩);simp only[aF];omega
theorem jh.ok{m:Map}{a b:zf}{x:fX}{ys:List eD}(h:jh m a b x ys)(hm:mL m)(hx:nq x):nq ((zw m.1 x.1).1,vS (ys++rD m.2.1) 127 2,()):=by
 have hv:=h.valid hm hx;refine⟨?_,?_,λv qC=>(hv v qC).2.1⟩
 ·have:=(zY.1 h.Cd.1).1;show(zw m.1 x.1).1.size<=_;omega
 ·have:=zzj (lo:=0) h.ris (λv qC=>by have:=Jw h.map.okB (hv v qC).1;omega);show(vS (ys++rD m.2.1) 127 2).length<=_;omega
def Nk(m:Map)(b:zf)(v:eD):Prop:=∃q,nx m v.1=some q/\(oN q b v.2.1).2=0
theorem VD{m:Map}{b:zf}:∀{l:List eD},(∃ys,sC m b l= .inr ys)↔∀v∈l,Nk m b v
 | []=>⟨λ_ v hv=>(by cases hv),λ_=>⟨[],rfl⟩⟩
 |v::r=>by
  rw[sC];constructor
  ·rintro⟨ys,h⟩ w hw;cases hf:nx m v.1 with
   |none=>rw[hf] at h;cases h
   |some q=>
    rw[hf] at h;dsimp only at h;cases hz:decide ((oN q b v.2.1).2=0) with
    |false=>rw[hz] at h;cases h
    |true=>
     rw[hz,ai,zD] at h;rcases aH.1 hw with rfl|hw
     ·exact⟨q,hf,of_decide_eq_true hz⟩
     ·cases hr:sC m b r with
      |inl g=>rw[hr] at h;cases h
      |inr zs=>exact VD.1 ⟨zs,hr⟩ w hw
  ·intro h;obtain⟨q,hf,hz⟩:=h v aW;obtain⟨zs,hr⟩:=VD.2 λw hw=>h w (aG _ hw);rw[hf,hr];dsimp only;rw[zT hz];exact⟨_,rfl⟩
theorem jh.part{m:Map}{a b:zf}{x:fX}{ys:List eD}(h:jh m a b x ys){l:List eD}(hl:List.Sublist l x.2.1):∃zs,jh m a b (x.1,l,()) zs:=by obtain⟨g1,g2,g3⟩:=h.qZ;obtain⟨zs,hz⟩:=VD.2 λv hv=>VD.1 ⟨ys,h.Ct⟩ v (hl.subset hv);exact⟨zs,h.map,⟨h.msg.p6,h.msg.right,h.msg.ver,Js.2 ⟨λv hv=>g1 v (hl.subset hv),g2.sublist hl,λv hv=>g3 v (hl.subset hv)⟩⟩,h.head,hz⟩
end eL

namespace eL
open Go.IntKind renaming wrap->zW,i64->zI,u8->zU
open Go Go.Ref
def qt(aK:Int)(m:af):af:=if aK=1 then m else(yx m).1
def BA(s:zf):List eD->af
 | []=>bs []
 |v::r=>(He s.1 (dv s v.1) v.2.1).1++BA s r
def q9(m:fX):List Int:=m.2.1.map λv=>v.1
def qX(s:zf)(m:fX):af:=qt s.1 m.1++(oh s.1 (my (q9 m)) (mz (q9 m))).1++BA s m.2.1
theorem ag0(m:fX)(h:m.2.1.length<=1000000):AZ m=some ((my (q9 m):Int),(mz (q9 m):Int),()):=by
 unfold AZ Xp;dsimp only;have key:∀(l:List eD) (i:Int) (p:List Int),fa (λi (x:eD) (b:Da) K=>(Fi b x.1).bind λr1=>K r1) (λb=>some (((0:Int),(0:Int),()),b)) l i ((my p:Int),(mz p:Int),())=some (((0:Int),(0:Int),()),((my (p++l.map λv=>v.1):Int),(mz (p++l.map λv=>v.1):Int),())):=by
  intro l
  induction l with
  |nil=>intro i p;rw[eH,bY];rfl
  |cons x r ih=>
   intro i p;rw[fa,RA _ _ (Cz p) (CA p),zc];have e1:my p|||qg x.1=my (p++ [x.1]):=by unfold my;rw[dE];rfl
   have e2:mz p|||qh x.1=mz (p++ [x.1]):=by unfold mz;rw[dE];rfl
   rw[e1,e2];dsimp only;rw[ih (i+1) (p++ [x.1]),bq,bd];rfl
 have:=jz vF m.2.1 (by rw[zh];omega) (λi (x:eD) (b:Da) K=>(Fi b x.1).bind λr1=>K r1) (λb=>some (((0:Int),(0:Int),()),b)) (λk i b=>TE k m.2.1 (m.2.1.length:Int) i ((0:Int),(0:Int),()) b) (λk i b=>rfl) ((0:Int),(0:Int),());rw[this];have k2:=key m.2.1 0 [];rw[show my []=0 from rfl,show mz []=0 from rfl] at k2;rw[show((0:Nat):Int)=0 from rfl] at k2;rw[k2];rfl
theorem ahJ(aK:Int)(m:af):(qt aK m).size<=m.size+500:=by
 unfold qt;split
 ·omega
 ·have:=zgz m;omega
theorem adE(aK:Int)(h l:Nat):(oh aK h l).1.size<=32:=by
 have hz:pE aK<=16:=by unfold pE;split<;>omega
 unfold oh;split
 ·dsimp only;split
  ·rw[zhf];omega
  ·rw[G9,zhf,zhf];omega
 ·exact bR _
theorem acr(aK:Int)(s:Spec)(t:af):(He aK s t).1.size<=2*t.size+1000:=by
 unfold He;split
 ·exact bR _
 ·split
  ·exact bR _
  ·dsimp only;rw[G9];have:=PE aK s.2.2.1 t.size;have:=z105 (ly aK s.2.1) t;omega
structure xJ(m:fX):Prop where
 Cd:m.1.size<=1000
 len:m.2.1.length<=1000
 Aq:∀v∈m.2.1,v.2.1.size<=1000
theorem xJ.ok{m:fX}(h:xJ m):nq m:=⟨by have:=h.Cd;omega,by have:=h.len;omega,λv hv=>by have:=h.Aq v hv;omega⟩
theorem ad7{s:zf}{m:fX}(hm:nq m)(h:sJ s m):xJ m:=by
 have ho:=(G4 s).1 h.p6;obtain⟨f1,f2,f3⟩:=Js.1 h.qZ;refine⟨by have:=(zY.1 h.right).1;omega,?_,λv hv=> ?_⟩
 ·have:=zzj (lo:=0) f2 (λv hv=>by have:=Wi (VZ ho (f1 v hv).1);have e:=(Wd (f1 v hv).1).2;rw[e] at this;exact⟨by omega,by omega⟩)
  omega
 ·obtain⟨v1,v2,v3,_,_⟩:=(Ti _ _ (hm.Aq v hv)).1 (f1 v hv).2;have:=Y9 v1;omega
theorem zzo{x o:af}(h:o.size+x.size<=140737488355328):rK x o=some (o++x):=by unfold rK YE Vr;rw[zT h,zC,zc]
theorem z159(s:zf)(hs:s.2.2.1.length<=maxLen)(f:gS):∀(l:List eD) (i:Int) (o:af),(∀v∈l,v.2.1.size<=1000)->o.size+3000*l.length<=100000000->
 fa (λi (x:eD) (o:af) K=>(oc s x.1).bind λr7=>(Hu s.1 r7.1 x.2.1).bind λr8=>(rK r8.1 o).bind λr9=>K r9) (λo=>some (f,o)) l i o=some (f,o++BA s l)
 | [],i,o,_,_=>by rw[BA,RD];rfl
 |x::r,i,o,h,ho=>by have hx:=h x aW;have hc:=acr s.1 (dv s x.1) x.2.1;rw[aF] at ho;rw[fa,G7 s _ hs,zc,adG _ _ _ (by omega),zc];dsimp only;rw[zzo (by omega),zc];rw[z159 s hs f r (i+1) _ (λv hv=>h v (aG _ hv)) (by rw[G9];omega),BA,gV]
theorem akX(aK:Int)(m:af)(hm:n8 m=true)(hs:aK=1\/aK=2):∃k,Bl aK m=some (qt aK m,k):=by
 have h4:=(zY.1 hm).1;unfold Bl YF qt;rw[zap m (by rw[zh];omega),zc,hm,ai,zD];rcases hs with rfl|rfl
 ·exact⟨true,rfl⟩
 ·rw[zF (by decide),zD,zT rfl,zC,zgy m (by rw[zh];omega),zc,if_neg (by decide)];exact⟨_,rfl⟩
def yn(s:zf)(m:fX):af×gS:=if(oY s m).1=0 then(qX s m,sD) else(bs [],oY s m)
theorem zzq(s:zf)(m:fX)(hs:s.2.2.1.length<=maxLen)(h:nq m):uL s m=some (yn s m):=by
 unfold uL YD yn;rw[znq s m hs h,zc];by_cases h0:(oY s m).1=0
 case neg=>rw[zF h0,if_neg h0];rfl
 have hm:=Tf.1 h0;have KD:=ad7 h hm;have ho:=(G4 s).1 hm.p6;obtain⟨k,hk⟩:=akX s.1 m.1 hm.right ho.1;have ht:=ahJ s.1 m.1;have hb:=adE s.1 (my (q9 m)) (mz (q9 m));have:=KD.Cd;have:=KD.len;rw[zT h0,ai,zD,if_pos h0,hk,zc,ag0 m (by omega)];have w1:rK (qt s.1 m.1) (bs [])=some (qt s.1 m.1):=by rw[zzo (by show 0+_<=_;omega),Jh]
 have w2:rK (oh s.1 (my (q9 m)) (mz (q9 m))).1 (qt s.1 m.1)=some (qt s.1 m.1++(oh s.1 (my (q9 m)) (mz (q9 m))).1):=zzo (by omega);dsimp only;rw[w1,zc,zc,ajL _ _ _ (Cz _) (CA _),zc,w2,zc];have hl:=jz vF m.2.1 (by rw[zh];omega) (λi (x:eD) (o:af) K=>(oc s x.1).bind λr7=>(Hu s.1 r7.1 x.2.1).bind λr8=>(rK r8.1 o).bind λr9=>K r9) (λo=>some (sD,o)) (λk i o=>TT k m.2.1 (m.2.1.length:Int) i s sD o) (λk i o=>rfl) (qt s.1 m.1++(oh s.1 (my (q9 m)) (mz (q9 m))).1);rw[hl,z159 s hs _ m.2.1 0 _ KD.Aq (by rw[G9];omega)];rfl
end eL

set_option maxRecDepth 10000
namespace eL
open Go.IntKind renaming wrap->zW,i64->zI,u8->zU
open Go Go.Ref
def p9(aK:Int):Nat:=if aK=2 then 2 else 4
def qu(aK:Int)(b:af):af:=if aK=2 then(z21 (b.extract 0 2) 4).1 else b.extract 0 4
def wR(s:zf)(b:af):Sum Int yP:=
 if b.size<p9 s.1 then .inl 2 else if n8 (qu s.1 b)=true/\oM (qu s.1 b)=s.2.1 then .inr (qu s.1 b,p9 s.1) else .inl 7
def sN(s:zf)(b:af):List Int->Nat->List eD->List eD×gS
 | [],a,o=>(o,if a<b.size then(12,129,()) else sD)
 |no::r,a,o=>if eP s no=false then(o,(9,no,())) else if¬(yu s.1 (dv s no) b a).2.2=0 then(o,((yu s.1 (dv s no) b a).2.2,no,())) else sN s b r (yu s.1 (dv s no) b a).2.1.toNat (o++ [(no,(yu s.1 (dv s no) b a).1,())])
def DZ(s:zf)(b t:af)(g:Nat×Nat×Int×Int):fX×gS:=
 if¬g.2.2.2=0 then((t,[],()),(g.2.2.2,1,())) else((t,(sN s b (elems g.1 g.2.1) g.2.2.1.toNat []).1,()),(sN s b (elems g.1 g.2.1) g.2.2.1.toNat []).2)
def Nh(s:zf)(b:af):Sum Int yP->fX×gS
 | .inl e=>(lY,(e,0,()))
 | .inr q=>DZ s b q.1 (kN s.1 b q.2)
def uY(s:zf)(b:af):fX×gS:=if¬(pF s).1=0 then(lY,(1,-1,())) else Nh s b (wR s b)
def Il:Sum Int yP->af×Int×Int
 | .inl e=>(bs [],0,e)
 | .inr q=>(q.1,(q.2:Int),0)
theorem ahK(aK:Int)(b:af):(qu aK b).size<=2000:=by
 unfold qu;split
 ·generalize hg:z21 (b.extract 0 2) 4=g;obtain⟨t,e,i⟩:=g;have:=zad hg;dsimp only;omega
 ·rw[b9];omega
theorem PU(s:zf)(t:af)(z:Nat)(ht:t.size<=2000):((qQ t).bind λr3=>(bif(!r3.2) then some (bs [],(0:Int),(7:Int)) else(bif(!(decide (r3.1=s.2.1))) then some (bs [],(0:Int),(7:Int)) else some (t,(z:Int),(0:Int)))))=some (Il (if n8 t=true/\oM t=s.2.1 then .inr (t,z) else .inl 7)):=by
 rw[Vy t (by rw[zh];omega),zc];dsimp only;cases hr:n8 t with
 |false=>rfl
 |true=>
  rw[ai,zD];by_cases hv:oM t=s.2.1
  ·rw[zT hv,if_pos ⟨rfl,hv⟩];rfl
  ·rw[zF hv,if_neg (λh=>hv h.2)];rfl
theorem ahL(s:zf)(b:af)(hb:b.size<=1099511627776):Bg s b=some (Il (wR s b)):=by
 have h4:Q2 4=some 2:=by have:=SQ 4 (by decide) (by decide);exact this
 have e0:((2:Int)).toNat=2:=rfl;have e4:((4:Int)).toNat=4:=rfl;have sF:=ahK s.1 b;unfold Bg Yn wR;by_cases h2:s.1=2
 ·have hz:p9 2=2:=rfl;have hT:qu 2 b=(z21 (b.extract 0 2) 4).1:=rfl;rw[h2] at sF;simp only[h2,decide_true,zC,h4,zc,e0];rw[hz];by_cases hc:b.size<2
  ·rw[zT (by omega),if_pos hc];rfl
  ·rw[zF (by omega),zD,zT (by decide),zC,zT (by omega),zC,if_neg hc,zgx _ _ (by rw[b9];omega),zc,<-hT];exact PU s (qu 2 b) 2 sF
 ·have hz:p9 s.1=4:=by unfold p9;rw[if_neg h2]
  have hT:qu s.1 b=b.extract 0 4:=by unfold qu;rw[if_neg h2]
  simp only[h2,decide_false,zD,e4];rw[hz];by_cases hc:b.size<4
  ·rw[zT (by omega),if_pos hc];rfl
  ·rw[zF (by omega),zD,zT (by omega),zC,if_neg hc,<-hT];exact PU s (qu s.1 b) 4 sF
theorem ade{h l:Nat}{pre r:List Int}{no:Int}(he:elems h l=pre++no::r):pZ h l no=r.headD 0:=by have hs:=zhe h l;rw[he] at hs;have hp:=List.pairwise_append.1 hs;have hq:=List.pairwise_cons.1 hp.2.1;unfold pZ;rw[he,List.filter_append,List.filter_eq_nil_iff.2 (λx hx=>by have:=hp.2.2 x hx no aW;simp;omega),b6,j5 (by simp),dK.2 (λx hx=>by have:=hq.1 x hx;simp;omega)]
theorem ad8(h l:Nat):pZ h l 0=(elems h l).headD 0:=by unfold pZ;rw[dK.2 (λx hx=>by have:=zhn ((S5 h l x).1 hx);simp;omega)]
theorem zpj(h l:Nat):(elems h l).length<=128:=by unfold elems;exact Nat.le_trans (List.length_filter_le _ _) (by rw[akB];exact bg _)
theorem agp{aK:Int}{s:Spec}{b:af}{a:Nat}(hb:b.size<=1099511627776)(h:(yu aK s b a).2.2=0):(((yu aK s b a).2.1.toNat:Nat):Int)=(yu aK s b a).2.1:=by generalize hg:yu aK s b a=g at h⊢;obtain⟨t,z,e⟩:=g;dsimp only at h⊢;subst h;have:=(ztb hb hg).2.2.1;omega
def Nj(b:af)(e:Sum (af×Int×fX×gS×fX) (af×Int×fX×gS×fX)):ae (fX×gS):=aA (λwe=>some (we.2.2.1,we.2.2.2.1)) (λwe=>bif(decide (we.2.1<(we.1.size:Int))) then some (we.2.2.2.2,((12:Int),(129:Int),())) else some (we.2.2.2.2,sD)) e
theorem zo0(s:zf)(hs:s.2.2.1.length<=maxLen)(b t:af)(hb:b.size<=1099511627776)(h l:Nat)(hh:h<lB)(hl:l<lB):∀(r pre:List Int) (k a:Nat) (o:List eD),elems h l=pre++r->o.length<=pre.length->r.length<k->
 (JZ k b (a:Int) (r.headD 0) s lY sD (t,o,()) ((h:Int),(l:Int),())).bind (Nj b)=some ((t,(sN s b r a o).1,()),(sN s b r a o).2)
 |r,pre,0,a,o,_,_,hk=>by omega
 | [],pre,k+1,a,o,he,ho,hk=>by
   unfold JZ TS sN;rw[show([]:List Int).headD 0=0 from rfl,zT (p:=(0:Int)=0) rfl,ai,zD,zc];unfold Nj;rw[cc];dsimp only;by_cases hc:a<b.size
   ·rw[zT (by omega),if_pos hc];rfl
   ·rw[zF (by omega),if_neg hc];rfl
 |no::r,pre,k+1,a,o,he,ho,hk=>by
  have jH:no∈elems h l:=by rw[he];exact dT _ aW
  have vO:=zhn ((S5 h l no).1 jH);have hlen:=zpj h l;rw[he,aJ,aF] at hlen;rw[aF] at hk;unfold JZ TS sN;rw[show(no::r).headD 0=no from rfl,zF (by omega:¬no=0),aV,zC,G7 s _ hs,zc];dsimp only;cases hf:eP s no with
  |false=>rfl
  |true=>
   rw[ai,zD,if_neg (by decide),adF _ _ _ _ hb,zc];by_cases hz:(yu s.1 (dv s no) b a).2.2=0
   case neg=>rw[zF hz,if_pos hz];rfl
   rw[zT hz,ai,zD,if_neg (λh=>h hz),zT (by simp only[cj];omega),zC,Rd h l hh hl no (by omega) (by omega),zc,ade he,<-agp hb hz];exact zo0 s hs b t hb h l hh hl r (pre++ [no]) k _ _ (by rw[he,bd];rfl) (by rw[aJ,aJ,cj,cj];omega) (by omega)
theorem ajK{aK:Int}{b:af}{a:Nat}(h:(kN aK b a).2.2.2=0):(kN aK b a).1<lB/\(kN aK b a).2.1<lB/\(((kN aK b a).2.2.1.toNat:Nat):Int)=(kN aK b a).2.2.1:=by generalize hg:kN aK b a=g at h⊢;obtain⟨h',l,z,e⟩:=g;dsimp only at h⊢;subst h;obtain⟨_,q1,q2,q3,_⟩:=ajM hg;exact⟨by show h'<18446744073709551616;omega,q2,by omega⟩
theorem aev(s:zf)(b:af)(hs:s.2.2.1.length<=maxLen)(hb:b.size<=1099511627776):wy s b=some (uY s b):=by
 unfold wy Ym uY;rw[S7 s hs,zc];by_cases h0:(pF s).1=0
 case neg=>rw[zF h0,if_pos h0];rfl
 rw[zT h0,ai,zD,if_neg (λh=>h h0),ahL s b hb,zc];cases ht:wR s b with
 |inl e=>
  have he:e≠0:=by
   unfold wR at ht;split at ht
   ·cases ht;decide
   ·split at ht
    ·cases ht
    ·cases ht;decide
  exact Sr he
 |inr q=>
  obtain⟨t,z⟩:=q;refine(Ss (p:=(0:Int)=0) rfl).trans ?_;dsimp only[Il,Nh,DZ];rw[ajJ _ _ _ hb,zc];by_cases he:(kN s.1 b z).2.2.2=0
  case neg=>rw[if_pos he];exact Sr he
  rw[if_neg (λh=>h he)];refine(Ss he).trans ?_;obtain⟨q1,q2,q3⟩:=ajK he;dsimp only[bmR];rw[Rd _ _ q1 q2 0 (by decide) (by decide),zc,ad8,<-q3];exact zo0 s hs b t hb _ _ q1 q2 (elems (kN s.1 b z).1 (kN s.1 b z).2.1) [] bE _ [] rfl (bg _) (by have:=zpj (kN s.1 b z).1 (kN s.1 b z).2.1;rw[zr];omega)
end eL

set_option maxRecDepth 10000
namespace eL
open Go.IntKind renaming wrap->zW,i64->zI,u8->zU
open Go Go.Ref
theorem amS{s:zf}(h:qd s){no:Int}(hh:eP s no=true):2<=no/\no<=128:=by have:=Wi (VZ h hh);rw[(Wd hh).2] at this;exact this
theorem ahI{s:zf}(hs:s.1=1\/s.1=2){m y:af}(hm:n8 m=true):qu s.1 (qt s.1 m++y)=m/\(qt s.1 m).size=p9 s.1:=by
 obtain⟨h4,hd⟩:=zY.1 hm;have e0:∀(p:af) (k:Nat),p.size=k->(p++y).extract 0 k=p:=λp k hk=>by have:=amE (bs []) p y;rw[Jh,show(bs []).size=0 from rfl,Nat.zero_add,hk] at this;exact this
 unfold qu qt p9;rcases hs with hs|hs
 ·have n2:¬s.1=2:=by omega
  rw[if_neg n2,if_pos hs,if_neg n2];exact⟨e0 m 4 h4,h4⟩
 ·have n1:¬s.1=1:=by omega
  have hz:(yx m).1.size=2:=by rw[zaf (by omega) hd,h4]
  rw[if_pos hs,if_neg n1,if_pos hs,e0 _ 2 hz];have:=ajF (s:=m) (by omega) hd;rw[h4] at this;rw[show(4:Int)=((4:Nat):Int) from rfl,this];exact⟨rfl,hz⟩
abbrev dI:=zf×Map×List Int×List eD×Unit
abbrev GY:eD:=(0,bs [],())
def rT(s:zf)(prev:List Int)(no:Int):Int:=bif !eP s no then 9 else bif decide (no=39) then 1 else bif decide (no∈prev) then 10 else 0
def om(s:zf):List Int->List Int->Int->ae (Int×Int)
 |_,[],_=>none
 |prev,no::r,i=>bif decide (rT s prev no=0) then om s (prev++ [no]) r (i+1) else some (rT s prev no,i)
def pN(a:Spec)(prev:List Int)(c:eD):Int:=bif decide (c.1<0) then 1 else bif decide (16<c.1) then 1 else bif decide (c.1∈prev) then 10 else fK a c.2.1
def nv(a:Spec):List Int->List eD->Int->ae (Int×Int)
 |_,[],_=>none
 |prev,c::r,i=>bif decide (pN a prev c=0) then nv a (prev++ [c.1]) r (i+1) else some (pN a prev c,i)
def n0(s:dI):Int×Int×Int:=
 bif !decide ((pF s.1).1=0) then(1,1,0) else bif !eP s.1 39 then(9,1,1) else match om s.1 [] s.2.2.1 0 with
  |some e=>(e.1,2,e.2)
  |none=>match nv (dv s.1 39) [] s.2.2.2.1 0 with
   |some e=>(e.1,3,e.2)
   |none=>bif decide ((0:Int)∈s.2.2.2.1.map λc=>c.1) then(0,0,0) else(15,3,(s.2.2.2.1.length:Int))
structure lC(s:dI):Prop where
 p6:s.1.2.2.1.length<=maxLen
 zA:s.2.2.1.length<=1000000
 pd:s.2.2.2.1.length<=1000000
 Aq:∀c∈s.2.2.2.1,c.2.1.size<=1099511627776
theorem Qz(no:Int):∀(l:List Int) (i:Int),0<=i->∃r,fa (λi (x:Int) (s:Unit) K=>bif decide (no=x) then some (Sum.inl i) else K s) (λ_=>some (Sum.inr ())) l i ()=some r/\(no∈l->∃j,r= .inl j/\0<=j)/\(no∉l->r= .inr ())
 | [],i,_=>⟨_,rfl,λh=>(by cases h),λ_=>rfl⟩
 |x::l,i,h=>by
  rw[fa];by_cases e:no=x
  ·rw[zT e,zC];exact⟨_,rfl,λ_=>⟨i,rfl,h⟩,λhn=>absurd (by rw[e];exact aW) hn⟩
  ·rw[zF e,zD];obtain⟨r,h1,h2,h3⟩:=Qz no l (i+1) (by omega);exact⟨r,h1,λhm=>h2 ((aH.1 hm).resolve_left e),λhn=>h3 λhm=>hn (aG _ hm)⟩
theorem acg(l:List Int)(no:Int)(h:l.length<=maxLen):Be l no=some (decide (no∈l)):=by
 unfold Be Ya Di Yg;have:=jz (0:Int) l h (λi (x:Int) (s:Unit) K=>bif decide (no=x) then some (Sum.inl i) else K s) (λ_=>some (Sum.inr ()))
  (λk i s=>TR k l no (l.length:Int) i) (λk i s=>rfl) ()
 dsimp only;obtain⟨r,h1,h2,h3⟩:=Qz no l 0 (Int.le_refl _);rw[this,h1,zc];by_cases hm:no∈l
 ·obtain⟨j,rfl,hj⟩:=h2 hm;rw[zT hm];show some (decide (0<=j))=_;rw[zT hj]
 ·rw[h3 hm,zF hm];rfl
theorem QA(c:eD):∀(l:List eD) (i:Int),0<=i->∃r,fa (λi (x:eD) (s:eD) K=>((yK x s).bind λr1=>(bif r1.1 then some (Sum.inl (i,r1.2)) else K r1.2))) (λs=>some (Sum.inr s)) l i c=some r/\(c.1∈l.map (λv=>v.1)->∃j,r= .inl (j,c)/\0<=j)/\(c.1∉l.map (λv=>v.1)->r= .inr c)
 | [],i,_=>⟨_,rfl,λh=>(by cases h),λ_=>rfl⟩
 |x::l,i,h=>by
  rw[fa];unfold yK XQ;rw[zc];dsimp only;rw[bq];by_cases e:x.1=c.1
  ·rw[zT e,zC];exact⟨_,rfl,λ_=>⟨i,rfl,h⟩,λhn=>absurd (by rw[e];exact aW) hn⟩
  ·rw[zF e,zD];obtain⟨r,h1,h2,h3⟩:=QA c l (i+1) (by omega);exact⟨r,h1,λhm=>h2 ((aH.1 hm).resolve_left λe2=>e e2.symm),λhn=>h3 λhm=>hn (aG _ hm)⟩
theorem ach(l:List eD)(c:eD)(h:l.length<=maxLen):Bd l c=some (decide (c.1∈l.map λv=>v.1),c):=by
 unfold Bd X9 Dh Yc;have:=jz GY l h (λi (x:eD) (s:eD) K=>((yK x s).bind λr1=>(bif r1.1 then some (Sum.inl (i,r1.2)) else K r1.2))) (λs=>some (Sum.inr s))
  (λk i s=>TP k l (l.length:Int) i s) (λk i s=>rfl) c
 dsimp only;obtain⟨r,h1,h2,h3⟩:=QA c l 0 (Int.le_refl _);rw[this,h1,zc];by_cases hm:c.1∈l.map λv=>v.1
 ·obtain⟨j,rfl,hj⟩:=h2 hm;rw[zT hm];show some (decide (0<=j),c)=_;rw[zT hj]
 ·rw[h3 hm,zF hm];rfl
theorem Lk{α:Type}{l:List α}{j:Nat}(h:j<l.length)(d:α):l.getD j d=l[j]:=by rw[aq,List.getElem?_eq_getElem h];rfl
theorem amB(s:dI)(h:lC s){j:Nat}(hj:j<s.2.2.1.length):Bb s (j:Int)=some (rT s.1 (s.2.2.1.take j) s.2.2.1[j]):=by
 have he:=h.zA;unfold Bb XR rT;rw[zi hj,aw,Lk hj,G7 s.1 _ h.p6,zc];cases eP s.1 s.2.2.1[j] with
 |false=>rfl
 |true=>
  dsimp only;rw[ai,zD,zD];cases decide (s.2.2.1[j]=39) with
  |true=>rfl
  |false=>rw[zD,zD,zT (by omega),zC,zT (by omega),zC,aO,acg _ _ (by rw[aU,zh];omega),zc];cases decide (s.2.2.1[j]∈s.2.2.1.take j)<;>rfl
theorem amy(s:dI)(h:lC s)(a:Spec){j:Nat}(hj:j<s.2.2.2.1.length):Ba s (j:Int) a=some (pN a ((s.2.2.2.1.take j).map λc=>c.1) s.2.2.2.1[j]):=by
 have he:=h.pd;have ht:=h.Aq _ (List.getElem_mem hj);unfold Ba XP pN;rw[zi hj,aw,Lk hj];cases decide (s.2.2.2.1[j].1<0) with
 |true=>rfl
 |false=>
  rw[zD,zD];cases decide (16<s.2.2.2.1[j].1) with
  |true=>rfl
  |false=>
   rw[zD,zD,zT (by omega),zC,zT (by omega),zC,aO,ach _ _ (by rw[aU,zh];omega),zc];dsimp only;cases decide (s.2.2.2.1[j].1∈(s.2.2.2.1.take j).map λc=>c.1) with
   |true=>rfl
   |false=>rw[zD,zD,EO _ _ ht];rfl
theorem O4(s:dI)(h:lC s)(sp:Spec):∀(n j k:Nat),j+n=s.2.2.1.length->n<k->JW k (s.2.2.1.length:Int) (j:Int) s sp=some (match om s.1 (s.2.2.1.take j) (s.2.2.1.drop j) j with
 |some e=> .inl (e.1,2,e.2,s,sp)
 |none=> .inr (s,sp))
 |n,j,0,_,hk=>by omega
 |0,j,k+1,hj,hk=>by unfold JW TJ;rw[zF (by omega),zD,aP (by omega)];rfl
 |n+1,j,k+1,hj,hk=>by
  have bS:j<s.2.2.1.length:=by omega
  have he:=h.zA;unfold JW TJ;rw[zT (by omega),zC,amB s h bS,zc,aM bS,om];cases decide (rT s.1 (s.2.2.1.take j) s.2.2.1[j]=0) with
  |false=>rfl
  |true=>rw[ai,zD,zC];dsimp only;rw[zu (by omega),de bS];exact O4 s h sp n (j+1) k (by omega) (by omega)
def tN(t:Bool):List eD->Bool
 | []=>t
 |c::r=>tN (t||decide (c.1=0)) r
theorem Ra(t:Bool):∀l:List eD,tN t l=(t||decide ((0:Int)∈l.map λc=>c.1))
 | []=>by simp [tN]
 |c::r=>by rw[tN,Ra _ r,bq,Bool.or_assoc];congr 1;rw[<-Bool.decide_or];exact decide_eq_decide.2 ⟨λh=>h.elim (λe=>by rw[<-e];exact aW) (aG _),λh=>(aH.1 h).imp (λe=>e.symm) id⟩
theorem zh7(s:dI)(h:lC s)(a:Spec):∀(n j k:Nat) (t:Bool),j+n=s.2.2.2.1.length->n<k->∃t',JX k t s.2.2.2.1 (s.2.2.2.1.length:Int) (j:Int) s a=some (match nv a ((s.2.2.2.1.take j).map λc=>c.1) (s.2.2.2.1.drop j) j with
 |some e=> .inl (e.1,3,e.2,t',s)
 |none=> .inr (tN t (s.2.2.2.1.drop j),s))
 |n,j,0,t,_,hk=>by omega
 |0,j,k+1,t,hj,hk=>by unfold JX TK;rw[zF (by omega),zD,aP (by omega)];exact⟨t,rfl⟩
 |n+1,j,k+1,t,hj,hk=>by
  have bS:j<s.2.2.2.1.length:=by omega
  have he:=h.pd;unfold JX TK;rw[zT (by omega),zC,zi bS,amy s h a bS,zc,aM bS,nv,tN];cases decide (pN a ((s.2.2.2.1.take j).map λc=>c.1) s.2.2.2.1[j]=0) with
  |false=>exact⟨t,rfl⟩
  |true=>
   rw[ai,zD,zC];dsimp only;rw[zu (by omega),aw,Lk bS];have e:(s.2.2.2.1.take j).map (λc=>c.1)++ [s.2.2.2.1[j].1]=(s.2.2.2.1.take (j+1)).map λc=>c.1:=by rw[<-de bS,cz];rfl
   rw[e];cases t with
   |true=>rw[zC,Bool.true_or];exact zh7 s h a n (j+1) k true (by omega) (by omega)
   |false=>rw[zD,dx];exact zh7 s h a n (j+1) k _ (by omega) (by omega)
theorem znv(s:dI)(h:lC s):A8 s=some (n0 s):=by
 have he:=h.zA;have hc:=h.pd;unfold A8 XH n0;rw[S7 s.1 h.p6,zc];cases decide ((pF s.1).1=0) with
 |false=>rfl
 |true=>
  rw[ai,zD,zD,G7 s.1 39 h.p6,zc];cases eP s.1 39 with
  |false=>rfl
  |true=>
   dsimp only;rw[ai,zD,zD];have e1:=O4 s h (dv s.1 39) s.2.2.1.length 0 bE (by omega) (by rw[zr];omega);rw[cX,aO,show((0:Nat):Int)=0 from rfl] at e1;rw[e1,zc];cases om s.1 [] s.2.2.1 0 with
   |some e=>rfl
   |none=>
    dsimp only;rw[cc];unfold XI;dsimp only;obtain⟨t',e2⟩:=zh7 s h (dv s.1 39) s.2.2.2.1.length 0 bE false (by omega) (by rw[zr];omega);rw[cX,aO,show((0:Nat):Int)=0 from rfl,eH] at e2;rw[e2,zc];cases nv (dv s.1 39) [] s.2.2.2.1 0 with
    |some e=>rfl
    |none=>dsimp only;rw[cc];unfold XJ;rw[Ra,dx];dsimp only;cases decide ((0:Int)∈s.2.2.2.1.map λc=>c.1)<;>rfl
theorem znd(l:List eD)(hl:l.length<=9223372036854775807)(m:Nat)(hm:m<=l.length)(e:Int):∀(n j k:Nat),j+n=m->n<k->∃r,JS k l (m:Int) e (j:Int)=some r/\(e∈((l.take m).drop j).map (λv=>v.1)->∃i,r= .inl i/\0<=i)/\(e∉((l.take m).drop j).map (λv=>v.1)->r= .inr ())
 |n,j,0,_,hk=>by omega
 |0,j,k+1,hj,hk=>by unfold JS Tx;rw[zF (by omega),zD,aP (by rw[aU];omega)];exact⟨_,rfl,λh=>(by cases h),λ_=>rfl⟩
 |n+1,j,k+1,hj,hk=>by
  have bS:j<l.length:=by omega
  have ou:j<(l.take m).length:=by rw[aU];omega
  unfold JS Tx;rw[zT (by omega),zC,zi bS,aw,Lk bS,aM ou,bq,List.getElem_take];by_cases he:l[j].1=e
  ·rw[zT he,zC];exact⟨_,rfl,λ_=>⟨(j:Int),rfl,by omega⟩,λhn=>absurd (by rw[he];exact aW) hn⟩
  ·rw[zF he,zD];dsimp only;rw[zu (by omega)];obtain⟨r,h1,h2,h3⟩:=znd l hl m hm e n (j+1) k (by omega) (by omega);exact⟨r,h1,λhm=>h2 ((aH.1 hm).resolve_left λe2=>he e2.symm),λhn=>h3 λhm=>hn (aG _ hm)⟩
theorem Pd(l:List eD)(hl:l.length<=maxLen)(m:Nat)(hm:m<=l.length)(e:Int):∃r,yD l (m:Int) e=some r/\decide (0<=r)=decide (e∈(l.take m).map λv=>v.1):=by
 unfold yD WY;rw[zh] at hl;obtain⟨r,h1,h2,h3⟩:=znd l (by omega) m hm e m 0 bE (by omega) (by rw[zr];omega);rw[show((0:Nat):Int)=0 from rfl] at h1;dsimp only;rw[h1,zc];rw[aO] at h2 h3;by_cases lS:e∈(l.take m).map λv=>v.1
 ·obtain⟨i,rfl,hi⟩:=h2 lS;exact⟨i,rfl,by rw[zT hi,zT lS]⟩
 ·rw[h3 lS];exact⟨-1,rfl,by rw[zF lS];rfl⟩
theorem zna(s:dI)(h:lC s)(t5:Int):∀(n j k:Nat),j+n=s.2.2.1.length->n<k->JQ k t5 (j:Int) s=some (match om s.1 (s.2.2.1.take j) (s.2.2.1.drop j) j with
 |some e=> .inl (e.1,2,e.2,t5,s)
 |none=> .inr (t5,s))
 |n,j,0,_,hk=>by omega
 |0,j,k+1,hj,hk=>by unfold JQ Tu;rw[zF (by omega),zD,aP (by omega)];rfl
 |n+1,j,k+1,hj,hk=>by
  have bS:j<s.2.2.1.length:=by omega
  have he:=h.zA;have ih:=zna s h t5 n (j+1) k (by omega) (by omega);have hw:∀{R:Type} (z:ae R),zd (j:Int) s.2.2.1.length z=z:=λz=>zi bS;unfold JQ Tu;simp only[hw];rw[zT (by omega),zC,aw,Lk bS,VK s.1 _ h.p6,zc,aM bS,om];unfold rT;rcases VT s.1 s.2.2.1[j] with⟨h1,h2,_⟩|⟨h1,_,h2,_⟩
  ·rw[h1,h2];rfl
  ·rw[h2,zF (by omega),zD,ai,zD];cases decide (s.2.2.1[j]=39) with
   |true=>rfl
   |false=>
    rw[zD,zD,zT (by omega),zC,zT (by omega),zC,aO,ak4 _ _ (by rw[aU,zh];omega),zc];cases decide (s.2.2.1[j]∈s.2.2.1.take j) with
    |true=>rfl
    |false=>rw[zD,zD,zT rfl,zC];rw[zu (by omega),de bS];exact ih
theorem zn9(s:dI)(h:lC s)(t5:Int)(h5:0<=t5/\t5<s.1.2.2.1.length)(hs5:ah s.1.2.2.1 t5.toNat lu=dv s.1 39):∀(n j k:Nat),j+n=s.2.2.2.1.length->n<k->JR k t5 (j:Int) s=some (match nv (dv s.1 39) ((s.2.2.2.1.take j).map λc=>c.1) (s.2.2.2.1.drop j) j with
 |some e=> .inl (e.1,3,e.2,s)
 |none=> .inr s)
 |n,j,0,_,hk=>by omega
 |0,j,k+1,hj,hk=>by unfold JR Tv;rw[zF (by omega),zD,aP (by omega)];rfl
 |n+1,j,k+1,hj,hk=>by
  have bS:j<s.2.2.2.1.length:=by omega
  have he:=h.pd;have ih:=zn9 s h t5 h5 hs5 n (j+1) k (by omega) (by omega);have hw:∀{R:Type} (z:ae R),zd (j:Int) s.2.2.2.1.length z=z:=λz=>zi bS;have hw5:∀{R:Type} (z:ae R),zd t5 s.1.2.2.1.length z=z:=λz=>zm h5.1 h5.2;have ht:=h.Aq _ (List.getElem_mem bS);obtain⟨r,f1,f2⟩:=Pd s.2.2.2.1 (by rw[zh];omega) j (by omega) s.2.2.2.1[j].1;unfold JR Tv;simp only[hw,hw5];rw[zT (by omega),zC,aw,Lk bS,f1,zc,f2,hs5,KR _ _ ht,zc,aM bS,nv];unfold pN;cases decide (s.2.2.2.1[j].1<0) with
  |true=>rfl
  |false=>
   rw[zD,zD];cases decide (16<s.2.2.2.1[j].1) with
   |true=>rfl
   |false=>
    rw[zD,zD];cases decide (s.2.2.2.1[j].1∈(s.2.2.2.1.take j).map λc=>c.1) with
    |true=>rfl
    |false=>
     rw[zD,zD];cases decide (fK (dv s.1 39) s.2.2.2.1[j].2.1=0) with
     |false=>rfl
     |true=>
      rw[ai,zD,zC];have e:(s.2.2.2.1.take j).map (λc=>c.1)++ [s.2.2.2.1[j].1]=(s.2.2.2.1.take (j+1)).map λc=>c.1:=by rw[<-de bS,cz];rfl
      rw[zu (by omega),e];exact ih
theorem zq5(s:dI)(h:lC s):AQ s=some (n0 s):=by
 have he:=h.zA;have hc:=h.pd;unfold AQ WS n0;rw[zcv s.1 h.p6,zc];cases decide ((pF s.1).1=0) with
 |false=>rfl
 |true=>
  rw[ai,zD,zD,VK s.1 39 h.p6,zc];rcases VT s.1 39 with⟨h1,h2,_⟩|⟨h1,h1',h2,h3⟩
  ·rw[h1,h2];rfl
  ·rw[h2,zF (by omega),zD,ai,zD];dsimp only;have e1:=zna s h (nA s.1.2.2.1 39 0) s.2.2.1.length 0 bE (by omega) (by rw[zr];omega);rw[cX,aO,show((0:Nat):Int)=0 from rfl] at e1;rw[e1,zc];cases om s.1 [] s.2.2.1 0 with
   |some e=>rfl
   |none=>
    dsimp only;rw[cc];unfold WT;dsimp only;have e2:=zn9 s h (nA s.1.2.2.1 39 0) ⟨h1,h1'⟩ h3 s.2.2.2.1.length 0 bE (by omega) (by rw[zr];omega);rw[cX,aO,show((0:Nat):Int)=0 from rfl,eH] at e2;rw[e2,zc];cases nv (dv s.1 39) [] s.2.2.2.1 0 with
    |some e=>rfl
    |none=>
     dsimp only;rw[cc];unfold WU;obtain⟨r,f1,f2⟩:=Pd s.2.2.2.1 (by rw[zh];omega) s.2.2.2.1.length (bg _) 0;rw[List.take_length] at f2;rw[f1,zc];by_cases hr:0<=r
     ·rw[zT hr] at f2;rw[zF (by omega),<-f2];rfl
     ·rw[zF hr] at f2;rw[zT (by omega),<-f2];rfl
abbrev Hj:=List dI×Int×Unit
abbrev amZ:zf:=((0:Int),(0:Int),([]:List Spec),())
abbrev yk:dI:=(amZ,aaN,([]:List Int),([]:List eD),())
abbrev OE:Ty:= .pair (.int .i64) (.pair .str .unit)
abbrev Ck:Ty:= .pair am2 (.pair OG (.pair (.sl 0 (.int .i64)) (.pair (.sl 0 OE) .unit)))
abbrev zzl:Ty:= .pair (.arr 2 Ck) (.pair (.int .i64) .unit)
theorem ahH{c:Hj}(h:c.1.length=2):∃p q,c=([p,q],c.2.1,()):=by
 obtain⟨l,n,u⟩:=c
 match l,h with
 | [p,q],_=>exact⟨p,q,rfl⟩
theorem zto:∃k,bE=k+1+1+1:=⟨bE-3,by rw[zr]⟩
def LA(s:dI):Bool:=decide ((200:Int)<(s.1.2.2.1.length:Int))||(decide ((300:Int)<(s.2.2.1.length:Int))||(decide ((300:Int)<(s.2.2.2.1.length:Int))||s.2.2.2.1.any λc=>decide ((1200:Int)<(c.2.1.size:Int))))
theorem Sx:∀(l:List eD) (i:Int),fa (λi (x:eD) (s:Unit) K=>(bif(decide ((1200:Int)<((x.2.1).size:Int))) then some (Sum.inl true) else K s)) (λ_=>some (Sum.inr ())) l i ()=some (bif l.any (λc=>decide ((1200:Int)<(c.2.1.size:Int))) then Sum.inl true else Sum.inr ())
 | [],i=>rfl
 |x::r,i=>by
  rw[fa,List.any_cons];cases decide ((1200:Int)<(x.2.1.size:Int)) with
  |true=>rfl
  |false=>exact Sx r (i+1)
theorem zq6(s:dI)(h:s.2.2.2.1.length<=maxLen):uG s=some (LA s):=by
 unfold uG WW LA;cases decide ((200:Int)<(s.1.2.2.1.length:Int)) with
 |true=>rfl
 |false=>
  rw[zD,dx];cases decide ((300:Int)<(s.2.2.1.length:Int)) with
  |true=>rfl
  |false=>
   rw[zD,dx];cases decide ((300:Int)<(s.2.2.2.1.length:Int)) with
   |true=>rfl
   |false=>
    rw[zD,dx];have:=jz GY s.2.2.2.1 h (λi (x:eD) (s:Unit) K=>(bif(decide ((1200:Int)<((x.2.1).size:Int))) then some (Sum.inl true) else K s)) (λ_=>some (Sum.inr ()))
     (λk i u=>Tw k i s) (λk i u=>rfl) ()
    dsimp only;rw[this,Sx];cases s.2.2.2.1.any (λc=>decide ((1200:Int)<(c.2.1.size:Int)))<;>rfl
theorem Ph{s:dI}(h:LA s=false):lC s/\s.1.2.2.1.length<=200/\s.2.2.1.length<=300/\s.2.2.2.1.length<=300/\∀c∈s.2.2.2.1,c.2.1.size<=1200:=by
 unfold LA at h;simp only[cF,decide_eq_false_iff_not] at h;obtain⟨h1,h2,h3,h4⟩:=h;have ht:∀c∈s.2.2.2.1,c.2.1.size<=1200:=λc hc=>by
  by_cases e:(1200:Int)<(c.2.1.size:Int)
  ·rw[List.any_eq_true.2 ⟨c,hc,zT e⟩] at h4;cases h4
  ·omega
 exact⟨⟨by rw[zh];omega,by omega,by omega,λc hc=>by have:=ht c hc;omega⟩,by omega,by omega,by omega,ht⟩
structure kA(p q:dI):Prop where
 sp:lC p
 sq:lC q
 pm:mL p.2.1
 qm:mL q.2.1
 Ou:p.1.2.2.1.length<=200
 Ox:q.1.2.2.1.length<=200
 pe:p.2.2.1.length<=300
 qe:q.2.2.1.length<=300
 pml:p.2.1.2.1.length<=300
 qml:q.2.1.2.1.length<=300
 abW:∀c∈p.2.2.2.1,c.2.1.size<=1200
 abX:∀c∈q.2.2.2.1,c.2.1.size<=1200
theorem zni{m:Map}(h:Ho m=false):m.2.1.length<=300:=by unfold Ho at h;simp only[cF,decide_eq_false_iff_not] at h;omega
theorem adY{p q:dI}{n:Int}(h:Wf zzl ([p,q],n,())):∃g,yE ([p,q],n,())=some g/\(g=false->kA p q):=by
 have hp:Wf Ck p:=h.1.2 p (by simp);have hq:Wf Ck q:=h.1.2 q (by simp);have w0:∀{R:Type} (x:ae R),zd 0 2 x=x:=λx=>zm (by omega) (by omega);have w1:∀{R:Type} (x:ae R),zd 1 2 x=x:=λx=>zm (by omega) (by omega);unfold yE W3;simp only[w0,w1];show∃g,((uG p).bind λr1=>(bif r1 then some true else((uG q).bind λr2=>(bif r2 then some true else((tP p.2.1).bind λr3=>(bif r3 then some true else((tP q.2.1).bind λr4=>some r4)))))))=some g/\_;rw[zq6 p hp.2.2.2.1.1,zc];cases h1:LA p with
 |true=>exact⟨true,rfl,λh=>by cases h⟩
 |false=>
  rw[zD,zq6 q hq.2.2.2.1.1,zc];cases h2:LA q with
  |true=>exact⟨true,rfl,λh=>by cases h⟩
  |false=>
   rw[zD,z171 hp.2.1,zc];cases h3:Ho p.2.1 with
   |true=>exact⟨true,rfl,λh=>by cases h⟩
   |false=>rw[zD,z171 hq.2.1,zc];refine⟨_,rfl,λh4=> ?_⟩;obtain⟨a1,a2,a3,a4,a5⟩:=Ph h1;obtain⟨b1,b2,b3,b4,b5⟩:=Ph h2;exact⟨a1,b1,Pg h3,Pg h4,a2,b2,a3,b3,zni h3,zni h4,a5,b5⟩
def oU(p q:dI)(n:Int):Int×Int×Int:=
 bif decide (n<1) then(5,2,0) else bif decide (65535<n) then(5,2,0)
 else bif !decide ((n0 p).1=0) then((n0 p).1,0,1) else bif !decide ((lX p.2.1 p.1 q.1).1=0) then((lX p.2.1 p.1 q.1).1,0,2)
 else bif !decide ((n0 q).1=0) then((n0 q).1,1,1) else bif !decide ((lX q.2.1 q.1 p.1).1=0) then((lX q.2.1 q.1 p.1).1,1,2) else(0,0,0)
theorem Ar{R:Type}(x:ae R):zd 0 2 x=x:=zm (by omega) (by omega)
theorem As{R:Type}(x:ae R):zd 1 2 x=x:=zm (by omega) (by omega)
theorem Io:zW zI ((1:Int)-(0:Int))=1:=by decide
theorem Ip:zW zI ((1:Int)-(1:Int))=0:=by decide
theorem KL:zW zI ((0:Int)+(1:Int))=1:=by decide
theorem KM:zW zI ((1:Int)+(1:Int))=2:=by decide
theorem gp(p q:dI):ah [p,q] (0:Int).toNat yk=p:=rfl
theorem gq(p q:dI):ah [p,q] (1:Int).toNat yk=q:=rfl
theorem zdp(p q:dI)(n:Int)(h:kA p q):yL ([p,q],n,())=some (oU p q n):=by
 obtain⟨k,hk⟩:=zto;unfold yL XT oU;dsimp only;cases decide (n<1) with
 |true=>rfl
 |false=>
  cases decide (65535<n) with
  |true=>rfl
  |false=>
   rw[zD,zD,zD,zD,hk];unfold JY La;simp only[Ar,As,Io,Ip,KL,KM,gp,gq];rw[zT (by decide:(0:Int)<2),zC,znv p h.sp,zc];cases decide ((n0 p).1=0) with
   |false=>rfl
   |true=>
    rw[ai,zD,zD,z7p p.2.1 p.1 q.1 h.pm h.sp.p6 h.sq.p6,zc];cases decide ((lX p.2.1 p.1 q.1).1=0) with
    |false=>rfl
    |true=>
     rw[ai,zD,zD];unfold JY La;simp only[Ar,As,Io,Ip,KL,KM,gp,gq];rw[zT (by decide:(1:Int)<2),zC,znv q h.sq,zc];cases decide ((n0 q).1=0) with
     |false=>rfl
     |true=>
      rw[ai,zD,zD,z7p q.2.1 q.1 p.1 h.qm h.sq.p6 h.sp.p6,zc];cases decide ((lX q.2.1 q.1 p.1).1=0) with
      |false=>rfl
      |true=>rw[ai,zD,zD];unfold JY La;rw[zF (by decide:¬(2:Int)<2),zD];rfl
theorem ado(p q:dI)(n:Int)(h:kA p q):AR ([p,q],n,())=some (oU p q n):=by
 obtain⟨k,hk⟩:=zto;unfold AR W0 oU;dsimp only;cases decide (n<1) with
 |true=>rfl
 |false=>
  cases decide (65535<n) with
  |true=>rfl
  |false=>
   rw[zD,zD,zD,zD,hk];unfold JT K8;simp only[Ar,As,Io,Ip,KL,KM,gp,gq];rw[zT (by decide:(0:Int)<2),zC,zq5 p h.sp,zc];cases decide ((n0 p).1=0) with
   |false=>rfl
   |true=>
    rw[ai,zD,zD,zq4 p.2.1 p.1 q.1 h.pm h.sp.p6 h.sq.p6,zc];cases decide ((lX p.2.1 p.1 q.1).1=0) with
    |false=>rfl
    |true=>
     rw[ai,zD,zD];unfold JT K8;simp only[Ar,As,Io,Ip,KL,KM,gp,gq];rw[zT (by decide:(1:Int)<2),zC,zq5 q h.sq,zc];cases decide ((n0 q).1=0) with
     |false=>rfl
     |true=>
      rw[ai,zD,zD,zq4 q.2.1 q.1 p.1 h.qm h.sq.p6 h.sp.p6,zc];cases decide ((lX q.2.1 q.1 p.1).1=0) with
      |false=>rfl
      |true=>rw[ai,zD,zD];unfold JT K8;rw[zF (by decide:¬(2:Int)<2),zD];rfl
theorem GO(p q r:dI):List.set [p,q] (0:Int).toNat r=[r,q]:=rfl
theorem GQ(p q r:dI):List.set [p,q] (1:Int).toNat r=[p,r]:=rfl
theorem UU(p q:dI):ah [p,q] (0:Int).toNat ((((0:Int),(0:Int),([]:List Spec),()),(([]:List fe),([]:List dN),()),([]:List Int),([]:List eD),()):dI)=p:=rfl
theorem UW(p q:dI):ah [p,q] (1:Int).toNat ((((0:Int),(0:Int),([]:List Spec),()),(([]:List fe),([]:List dN),()),([]:List Int),([]:List eD),()):dI)=q:=rfl
theorem w0{R:Type}(x:ae R):zd 0 2 x=x:=zm (by omega) (by omega)
theorem w1{R:Type}(x:ae R):zd 1 2 x=x:=zm (by omega) (by omega)
theorem ga(a b:zf):ah ([a,b]:List zf) (0:Int).toNat ((0:Int),(0:Int),([]:List Spec),())=a:=rfl
def lT(m:af):af:=strOf [ze m 0,ze m 1,ze m 2+1,ze m 3]
theorem amI{m:af}(h:m.size=4):bl m=[ze m 0,ze m 1,ze m 2,ze m 3]:=by
 have hl:(bl m).length=4:=by rw[zg];exact h
 have e:=λi=>uy m i
 match hb:bl m,hl with
 | [a,b,c,d],_=>rw[e 0,e 1,e 2,e 3,hb];rfl
theorem V0{m:af}(h:m6 m=true):n8 m=true/\(ze m 2=48\/ze m 2=50):=by unfold m6 at h;rw[ar,Bool.or_eq_true,decide_eq_true_eq,decide_eq_true_eq] at h;exact h
theorem RW{m:af}(h:m6 m=true):bl (lT m)=[ze m 0,ze m 1,ze m 2+1,ze m 3]/\fg [ze m 0,ze m 1,ze m 2+1,ze m 3]=true:=by obtain⟨hr,h2⟩:=V0 h;have d0:=E1 hr 0 (by decide);have d1:=E1 hr 1 (by decide);have d3:=E1 hr 3 (by decide);have hd:fg [ze m 0,ze m 1,ze m 2+1,ze m 3]=true:=zZ.2 ⟨CW.2 d0,zZ.2 ⟨CW.2 d1,zZ.2 ⟨CW.2 (by omega),zZ.2 ⟨CW.2 d3,rfl⟩⟩⟩⟩;exact⟨Cy (OY hd),hd⟩
theorem amY{m:af}(h:m6 m=true):n8 (lT m)=true/\oM (lT m)=oM m/\m6 (lT m)=false:=by
 obtain⟨hr,h2⟩:=V0 h;obtain⟨hb,hd⟩:=RW h;have hs:(lT m).size=4:=by rw[<-zg,hb];rfl
 have mG:n8 (lT m)=true:=zY.2 ⟨hs,by rw[hb];exact hd⟩;have e0:ze (lT m) 0=ze m 0:=by rw[uy (lT m),hb];rfl
 have e2:ze (lT m) 2=ze m 2+1:=by rw[uy (lT m),hb];rfl
 refine⟨mG,?_,?_⟩
 ·unfold oM;rw[hr,mG,e0]
 ·unfold m6;rw[mG,e2,zF (by omega),zF (by omega)];rfl
theorem acN(m:af)(h:m.size<=maxLen):A4 m=some (if m6 m=true then(lT m,true) else(bs [],false)):=by
 unfold A4 Xv;rw[zcu m h,zc];cases hr:m6 m with
 |false=>rfl
 |true=>
  obtain⟨m9,h2⟩:=V0 hr;have h4:=(zY.1 m9).1;have hb:=amI h4;have z1:(m.extract 0 2).size=2:=by rw[b9];omega
  have z3:(m.extract 3 m.size).size=1:=by rw[b9];omega
  have zs:∀x:Int,(strOf [x]).size=1:=λx=>by rw[CV];rfl
  have hw:zW zU (ze m 2+1)=ze m 2+1:=by rcases h2 with e|e<;>rw[e]<;>decide
  rw[ai,zD,show((2:Int)).toNat=2 from rfl,show((3:Int)).toNat=3 from rfl,zT (by omega),zC,show(2:Int)=((2:Nat):Int) from rfl,zi (by omega),hw,zT (by rw[z1,zs];decide),zC,zT (by omega),zC,zT (by rw[G9,z1,zs,z3];decide),zC,if_pos rfl];congr 2;apply Kg;rw[yr,yr,CU,CU,h4,hb,(RW hr).1];have hx:zn (ze m 2+1):=by unfold zn;omega
  rw[Cy (xs:=[ze m 2+1]) (by simpa using hx)];rfl
def np(l:List eD)(no:Int):ae eD:=l.find? λv=>decide (v.1=no)
theorem Qu(no:Int):∀(l:List eD) (i:Int),fa (λi (x:eD) (s:Unit) K=>bif decide (x.1=no) then some (Sum.inl (x.2.1,true)) else K s) (λ_=>some (Sum.inr ())) l i ()=some (match np l no with
 |some v=> .inl (v.2.1,true)
 |none=>(.inr ():Sum qT Unit))
 | [],i=>rfl
 |x::r,i=>by
  rw[fa];unfold np;rw[List.find?_cons];cases hx:decide (x.1=no) with
  |true=>rfl
  |false=>exact Qu no r (i+1)
theorem ak6(m:fX)(no:Int)(h:m.2.1.length<=1000000):wl m no=some (match np m.2.1 no with
 |some v=>(v.2.1,true)
 |none=>(bs [],false)):=by
 unfold wl Xn;dsimp only;have:=jz vF m.2.1 (by rw[zh];omega) (λi (x:eD) (s:Unit) K=>bif decide (x.1=no) then some (Sum.inl (x.2.1,true)) else K s) (λ_=>some (Sum.inr ())) (λk i s=>TD k no m.2.1 (m.2.1.length:Int) i) (λk i s=>rfl) ();rw[this,Qu];cases np m.2.1 no<;>rfl
def pO(s:dI)(e:Int):af:=match np s.2.2.2.1 e with
 |some c=>c.2.1
 |none=>match np s.2.2.2.1 0 with
  |some c=>c.2.1
  |none=>bs []
theorem OU(s:dI)(e:Int)(q:List Int)(n i0:Int):∀(l:List eD) (i:Int),fa (λi (x:eD) (u:Unit) K=>bif decide (x.1=e) then some (Sum.inl (x.2.1,q,n,i0,s)) else K u) (λ_=>some (Sum.inr (q,n,i0,s))) l i ()=some (match np l e with
 |some v=> .inl (v.2.1,q,n,i0,s)
 |none=>(.inr (q,n,i0,s):Sum (af×List Int×Int×Int×dI) (List Int×Int×Int×dI)))
 | [],i=>rfl
 |x::r,i=>by
  rw[fa];unfold np;rw[List.find?_cons];cases hx:decide (x.1=e) with
  |true=>rfl
  |false=>exact OU s e q n i0 r (i+1)
theorem amz(s:dI)(hs:s.2.2.2.1.length<=1000000)(e:Int)(q:List Int)(n i0:Int):K9 bE e q n i0 s.2.2.2.1 (s.2.2.2.1.length:Int) 0 s=some (match np s.2.2.2.1 e with
 |some v=> .inl (v.2.1,q,n,i0,s)
 |none=>(.inr (q,n,i0,s):Sum (af×List Int×Int×Int×dI) (List Int×Int×Int×dI))):=by
 rw[<-OU s e q n i0 s.2.2.2.1 0];exact jz vF s.2.2.2.1 (by rw[zh];omega) (λi (x:eD) (u:Unit) K=>bif decide (x.1=e) then some (Sum.inl (x.2.1,q,n,i0,s)) else K u) (λ_=>some (Sum.inr (q,n,i0,s))) (λk i u=>K9 k e q n i0 s.2.2.2.1 (s.2.2.2.1.length:Int) i s) (λk i u=>rfl) ()
theorem ak1(s:dI)(hs:s.2.2.2.1.length<=1000000)(e:Int):A9 s e=some (pO s e):=by
 obtain⟨k,hk⟩:=zto;have h1:=amz s hs;unfold A9 XM pO;dsimp only;rw[show(ag [e,(0:Int)]:Int)=2 from rfl];have step:∀(K i:Nat) (x:Int),i<2->ah [e,(0:Int)] i 0=x->Hc (K+1) [e,0] 2 (i:Int) s=match np s.2.2.2.1 x with
  |some v=>some (.inr v.2.1)
  |none=>Hc K [e,0] 2 ((i+1:Nat):Int) s:=by
  intro K i x hi hx
  conv=>lhs;unfold Hc TL
  rw[zT (by omega),zC,show(ag [e,(0:Int)])=2 from rfl,zi hi,aw,hx];dsimp only;rw[h1,zc];cases np s.2.2.2.1 x with
  |some v=>rfl
  |none=>dsimp only;rw[cc];unfold XO;dsimp only;rw[zu (by omega)]
 have s0:=step (k+1+1) 0 e (by decide) rfl;have s1:=step (k+1) 1 0 (by decide) rfl;rw[show((0:Nat):Int)=0 from rfl] at s0;rw[hk,s0];cases np s.2.2.2.1 e with
 |some v=>rfl
 |none=>
  dsimp only;rw[s1];cases np s.2.2.2.1 0 with
  |some v=>rfl
  |none=>dsimp only;unfold Hc TL;rw[zF (by decide)];rfl
def nN(l:List eD):List Int->fX->fX
 | [],o=>o
 |no::r,o=>nN l r (match np l no with
  |some v=>mV o no v.2.1
  |none=>o)
def AB(s:dI)(m:fX)(e:Int):fX:=mV (nN m.2.1 s.2.2.1 (lT m.1,[],())) 39 (pO s e)
def Ji(s:dI)(m:fX)(f:gS):fX×Bool:=if m6 m.1=true then(AB s m f.1,true) else(lY,false)
theorem zq2(m:fX)(no:Int)(t:af):(mV m no t).2.1.length<=m.2.1.length+1:=V2 m no t
theorem zhb(l:List eD):∀(e:List Int) (o:fX),(nN l e o).2.1.length<=o.2.1.length+e.length
 | [],o=>bg _
 |no::r,o=>by
  rw[nN,aF];have h:=zhb l r (match np l no with
   |some v=>mV o no v.2.1
   |none=>o)
  cases hx:np l no with
  |some v=>rw[hx] at h;have:=zq2 o no v.2.1;dsimp only at h⊢;omega
  |none=>rw[hx] at h;dsimp only at h⊢;omega
theorem zhd{ρ:Type}(m:fX)(hm:m.2.1.length<=1000000)(fin:fX->ae ρ):∀(l:List Int) (i:Int) (o:fX),o.2.1.length+l.length<=1000000->
 fa (λi (x:Int) (o:fX) K=>(wl m x).bind λr2=>(bif r2.2 then((pJ o x r2.1).bind λr3=>K r3) else K o)) fin l i o=fin (nN m.2.1 l o)
 | [],i,o,_=>rfl
 |x::r,i,o,h=>by
  rw[aF] at h;rw[fa,ak6 m x hm,zc,nN];cases hx:np m.2.1 x with
  |some v=>have:=zq2 o x v.2.1;dsimp only;rw[zC,V4 o x _ (by omega),zc];exact zhd m hm fin r (i+1) _ (by omega)
  |none=>exact zhd m hm fin r (i+1) o (by omega)
theorem ahV(s:dI)(m:fX)(f:gS)(hs:lC s)(he:s.2.2.1.length<=300)(hm:nq m):A7 s m f=some (Ji s m f):=by
 have H2:=hm.len;unfold A7 XD Ji;rw[acN m.1 (by rw[zh];exact hm.Cd),zc];cases hr:m6 m.1 with
 |false=>rfl
 |true=>rw[if_pos rfl,if_pos rfl,ai,zD];dsimp only;have hl:=jz (0:Int) s.2.2.1 (by rw[zh];omega) (λi (x:Int) (o:fX) K=>(wl m x).bind λr2=>(bif r2.2 then((pJ o x r2.1).bind λr3=>K r3) else K o)) (λo=>some (s,f,lY,o)) (λk i o=>TI k s.2.2.1 (s.2.2.1.length:Int) i s m f lY o) (λk i o=>rfl) (lT m.1,[],());have hb:=zhb m.2.1 s.2.2.1 (lT m.1,[],());rw[hl,zhd m (by omega) _ _ _ _ (by simp;omega),zc];unfold XE;dsimp only at hb⊢;rw[ak1 s hs.pd,zc,V4 _ _ _ (by rw[cL] at hb;omega),zc];rfl
theorem ztc{a:Spec}:∀{l:List eD} {prev:List Int} {i:Int},nv a prev l i=none->∀c∈l,fK a c.2.1=0
 | [],_,_,_,c,hc=>by cases hc
 |x::r,prev,i,h,c,Aj=>by
  rw[nv] at h;by_cases hc:pN a prev x=0
  ·rw[zT hc,zC] at h;rcases aH.1 Aj with rfl|Aj
   ·unfold pN at hc;cases h1:decide (c.1<0) with
    |true=>rw[h1] at hc;cases hc
    |false=>
     rw[h1,zD] at hc;cases h2:decide (16<c.1) with
     |true=>rw[h2] at hc;cases hc
     |false=>
      rw[h2,zD] at hc;cases h3:decide (c.1∈prev) with
      |true=>rw[h3] at hc;cases hc
      |false=>rw[h3,zD] at hc;exact hc
   ·exact ztc h c Aj
  ·rw[zF hc] at h;cases h
structure Bs(s:dI):Prop where
 p6:(pF s.1).1=0
 act:eP s.1 39=true
 pd:∀c∈s.2.2.2.1,fK (dv s.1 39) c.2.1=0
 zero:(0:Int)∈s.2.2.2.1.map λc=>c.1
theorem akM{s:dI}(h:(n0 s).1=0):Bs s:=by
 unfold n0 at h;by_cases h1:(pF s.1).1=0
 case neg=>rw[zF h1] at h;cases h
 rw[zT h1,ai,zD] at h;cases h2:eP s.1 39 with
 |false=>rw[h2] at h;cases h
 |true=>
  rw[h2,ai,zD] at h;have ne:∀{l:List Int} {prev:List Int} {i:Int} {e:Int×Int},om s.1 prev l i=some e->e.1≠0:=by
   intro l
   induction l with
   |nil=>intro _ _ _ h;cases h
   |cons x r ih=>
    intro prev i e h;rw[om] at h;by_cases hc:rT s.1 prev x=0
    ·rw[zT hc,zC] at h;exact ih h
    ·rw[zF hc,zD] at h;cases h;exact hc
  have nc:∀{l:List eD} {prev:List Int} {i:Int} {e:Int×Int},nv (dv s.1 39) prev l i=some e->e.1≠0:=by
   intro l
   induction l with
   |nil=>intro _ _ _ h;cases h
   |cons x r ih=>
    intro prev i e h;rw[nv] at h;by_cases hc:pN (dv s.1 39) prev x=0
    ·rw[zT hc,zC] at h;exact ih h
    ·rw[zF hc,zD] at h;cases h;exact hc
  cases h3:om s.1 [] s.2.2.1 0 with
  |some e=>rw[h3] at h;exact absurd h (ne h3)
  |none=>
   rw[h3] at h;dsimp only at h;cases h4:nv (dv s.1 39) [] s.2.2.2.1 0 with
   |some e=>rw[h4] at h;exact absurd h (nc h4)
   |none=>
    rw[h4] at h;dsimp only at h;by_cases h5:(0:Int)∈s.2.2.2.1.map λc=>c.1
    ·exact⟨h1,h2,ztc h4,h5⟩
    ·rw[zF h5] at h;cases h
theorem ajQ{s:dI}(h:Bs s)(e:Int):fK (dv s.1 39) (pO s e)=0:=by
 unfold pO;cases h1:np s.2.2.2.1 e with
 |some c=>exact h.pd c (cn h1)
 |none=>
  cases h2:np s.2.2.2.1 0 with
  |some c=>exact h.pd c (cn h2)
  |none=>obtain⟨c,hc,h0⟩:=List.mem_map.1 h.zero;have:=List.find?_eq_none.1 h2 c hc;exact absurd (zT h0) this
theorem O3(l:List eD):∀(e:List Int) (o:fX) (v:eD),v∈(nN l e o).2.1->v∈o.2.1\/v∈l
 | [],o,v,h=> .inl h
 |no::r,o,v,h=>by
  rw[nN] at h;rcases O3 l r _ v h with h|h
  ·cases hx:np l no with
   |none=>rw[hx] at h;exact .inl h
   |some w=>
    rw[hx] at h;rcases(V3 o no w.2.1 v).1 h with e|⟨h,_⟩
    ·have hw:=List.find?_some hx;have hw:w.1=no:=by simpa using hw
     right;rw[e,<-hw];exact cn hx
    ·exact .inl h
  ·exact .inr h
theorem zhc(l:List eD):∀(e:List Int) (o:fX),rM o.2.1->rM (nN l e o).2.1/\(nN l e o).1=o.1
 | [],o,h=>⟨h,rfl⟩
 |no::r,o,h=>by
  rw[nN];cases hx:np l no with
  |none=>exact zhc l r o h
  |some w=>obtain⟨h1,h2⟩:=zhc l r (mV o no w.2.1) (zid h no w.2.1);exact⟨h1,h2⟩
structure Part(s:zf)(m:fX):Prop where
 head:n8 m.1=true->oM m.1=s.2.1
 Cd:m.1.size<=1000
 len:m.2.1.length<=200
 qZ:∀v∈m.2.1,eP s v.1=true/\fK (dv s v.1) v.2.1=0/\v.2.1.size<=999
theorem Part.ok{s:zf}{m:fX}(h:Part s m):nq m:=⟨by have:=h.Cd;omega,by have:=h.len;omega,λv hv=>by have:=(h.qZ v hv).2.2;omega⟩
theorem ajN{s:dI}(hk:Bs s)(ho:lC s)(he:s.2.2.1.length<=300){m:fX}(hm:Part s.1 m)(e:Int)(hr:m6 m.1=true):sJ s.1 (AB s m e)/\xJ (AB s m e)/\m6 (AB s m e).1=false:=by
 obtain⟨r1,r2,r3⟩:=amY hr;obtain⟨b1,b2⟩:=zhc m.2.1 s.2.2.1 (lT m.1,[],()) List.Pairwise.nil;have Ed:(AB s m e).1=lT m.1:=b2;have ok:=(G4 s.1).1 hk.p6;have hc:=ajQ hk e;have mZ:(pO s e).size<=1099511627776:=by
  unfold pO;split
  ·rename_i c h;exact ho.Aq c (cn h)
  ·split
   ·rename_i c h;exact ho.Aq c (cn h)
   ·exact bR _
 have hf:∀v∈(AB s m e).2.1,eP s.1 v.1=true/\fK (dv s.1 v.1) v.2.1=0/\v.2.1.size<=999:=λv hv=>by
  rcases(V3 _ _ _ v).1 hv with rfl|⟨hv,_⟩
  ·obtain⟨v1,v2,v3,_,_⟩:=(Ti _ _ mZ).1 hc;have:=Y9 v1;exact⟨hk.act,hc,by dsimp only;omega⟩
  ·rcases O3 _ _ _ v hv with hv|hv
   ·cases hv
   ·exact hm.qZ v hv
 have aaA:rM (AB s m e).2.1:=zid b1 39 (pO s e);refine⟨⟨hk.p6,by rw[Ed];exact r1,by rw[Ed,r2];exact hm.head (V0 hr).1,Js.2 ⟨λv hv=>⟨(hf v hv).1,(hf v hv).2.1⟩,aaA,λv hv=>by have:=amS ok (hf v hv).1;omega⟩⟩,⟨by rw[Ed];have:=(zY.1 r1).1;omega,?_,λv hv=>by have:=(hf v hv).2.2;omega⟩,by rw[Ed];exact r3⟩;have h1:=zhb m.2.1 s.2.2.1 (lT m.1,[],());have h2:=zq2 (nN m.2.1 s.2.2.1 (lT m.1,[],())) 39 (pO s e);unfold AB;dsimp only[cL] at h1;omega
theorem OX(s:zf)(b:af)(hb:b.size<=1099511627776):∀(r:List Int) (a:Nat) (o:List eD),(∀v∈o,eP s v.1=true/\fK (dv s v.1) v.2.1=0/\v.2.1.size<=999)->(∀v∈(sN s b r a o).1,eP s v.1=true/\fK (dv s v.1) v.2.1=0/\v.2.1.size<=999)/\(sN s b r a o).1.length<=o.length+r.length
 | [],a,o,h=>⟨h,bg _⟩
 |no::r,a,o,h=>by
  rw[sN];split
  ·exact⟨h,Nat.le_add_right _ _⟩
  ·rename_i hf;have hf:eP s no=true:=by cases hh:eP s no with
    |true=>rfl
    |false=>exact absurd hh hf
   split
   ·exact⟨h,Nat.le_add_right _ _⟩
   ·rename_i hz;generalize hg:yu s.1 (dv s no) b (a:Int)=g at hz⊢;obtain⟨t,z,e⟩:=g;dsimp only at hz⊢;have he:e=0:=Classical.byContradiction λhn=>hz hn;subst he;obtain⟨c1,c2,c3,c4,c5,c6⟩:=ztb hb hg;have h2:∀v∈o++ [((no,t,()):eD)],eP s v.1=true/\fK (dv s v.1) v.2.1=0/\v.2.1.size<=999:=λv hv=>by
     rcases aR.1 hv with hv|hv
     ·exact h v hv
     ·rw[List.mem_singleton.1 hv];exact⟨hf,c2,c5⟩
    obtain⟨i1,i2⟩:=OX s b hb r z.toNat _ h2;rw[aJ,cj] at i2;exact⟨i1,by rw[aF];omega⟩
theorem GJ(s:zf):Part s lY:=⟨λh=>(by cases h),bR _,bR _,λv hv=>(by cases hv)⟩
theorem ajU(s:zf)(b:af)(hb:b.size<=1099511627776):Part s (uY s b).1:=by
 unfold uY;split
 ·exact GJ s
 cases ht:wR s b with
 |inl e=>exact GJ s
 |inr q=>
  unfold wR at ht;split at ht
  ·cases ht
  split at ht
  case isFalse=>cases ht
  rename_i hr;injection ht with ht
  subst ht;have h4:=(zY.1 hr.1).1;show Part s (DZ s b (qu s.1 b) _).1;unfold DZ;split
  ·exact⟨λ_=>hr.2,by dsimp only;omega,bR _,λv hv=>by cases hv⟩
  ·obtain⟨p1,p2⟩:=OX s b hb (elems (kN s.1 b (p9 s.1)).1 (kN s.1 b (p9 s.1)).2.1) (kN s.1 b (p9 s.1)).2.2.1.toNat [] (λv hv=>by cases hv);have:=zpj (kN s.1 b (p9 s.1)).1 (kN s.1 b (p9 s.1)).2.1;rw[cL] at p2;exact⟨λ_=>hr.2,by dsimp only;omega,by dsimp only;omega,p1⟩
def wH(p:dI)(n:Int)(m:fX)(f:gS):Int×af:=
 if m6 m.1=true then(if n<((qX p.1 (AB p m f.1)).size:Int) then(3,bs []) else(2,qX p.1 (AB p m f.1))) else(3,bs [])
def Ie(p q:dI)(n:Int)(m:fX)(t:fX×gS):Int×af:=
 if¬t.2.1=0 then wH p n m t.2 else if n<((qX q.1 t.1).size:Int) then wH p n m (5,129,()) else(1,qX q.1 t.1)
def Ic(p q:dI)(n:Int)(d:fX×gS):Int×af:=if¬d.2.1=0 then wH p n d.1 d.2 else Ie p q n d.1 (Af p.2.1 p.1 q.1 d.1)
def zP(p q:dI)(n:Int)(b:af):Int×af:=Ic p q n (uY p.1 b)
structure yz(p q:dI)(n:Int):Prop where
 n1:1<=n
 n2:n<=65535
 rp:(n0 p).1=0
 rq:(n0 q).1=0
 mp:(lX p.2.1 p.1 q.1).1=0
 mq:(lX q.2.1 q.1 p.1).1=0
theorem yz.symm{p q:dI}{n:Int}(h:yz p q n):yz q p n:=⟨h.n1,h.n2,h.rq,h.rp,h.mq,h.mp⟩
theorem kA.symm{p q:dI}(h:kA p q):kA q p:=⟨h.sq,h.sp,h.qm,h.pm,h.Ox,h.Ou,h.qe,h.pe,h.qml,h.pml,h.abX,h.abW⟩
theorem zpi{p q:dI}{n:Int}:(oU p q n).1=0↔yz p q n:=by
 unfold oU;by_cases h1:n<1
 ·rw[zT h1];exact⟨λh=>(by cases h),λh=>by have:=h.n1;omega⟩
 by_cases h2:65535<n
 ·rw[zF h1,zT h2];exact⟨λh=>(by cases h),λh=>by have:=h.n2;omega⟩
 rw[zF h1,zF h2,zD,zD];by_cases h3:(n0 p).1=0
 case neg=>rw[zF h3];exact⟨λh=>absurd h h3,λh=>absurd h.rp h3⟩
 rw[zT h3,ai,zD];by_cases h4:(lX p.2.1 p.1 q.1).1=0
 case neg=>rw[zF h4];exact⟨λh=>absurd h h4,λh=>absurd h.mp h4⟩
 rw[zT h4,ai,zD];by_cases h5:(n0 q).1=0
 case neg=>rw[zF h5];exact⟨λh=>absurd h h5,λh=>absurd h.rq h5⟩
 rw[zT h5,ai,zD];by_cases h6:(lX q.2.1 q.1 p.1).1=0
 case neg=>rw[zF h6];exact⟨λh=>absurd h h6,λh=>absurd h.mq h6⟩
 rw[zT h6];exact⟨λ_=>⟨by omega,by omega,h3,h5,h4,h6⟩,λ_=>rfl⟩
theorem aj2{s:zf}{m:fX}(h:sJ s m):2<=(qX s m).size:=by
 have ho:=(G4 s).1 h.p6;have:=(ahI (s:=s) ho.1 (m:=m.1) (y:=bs []) h.right).2;have hz:2<=p9 s.1:=by unfold p9;split<;>omega
 unfold qX;rw[G9,G9];omega
theorem R8{s:zf}{m:fX}(h:sJ s m):yn s m=(qX s m,sD):=by unfold yn;rw[if_pos (Tf.2 h)]
theorem ahD{p q:dI}(h:kA p q){m:fX}(hm:nq m)(ht:(Af p.2.1 p.1 q.1 m).2.1=0):sJ q.1 (Af p.2.1 p.1 q.1 m).1/\nq (Af p.2.1 p.1 q.1 m).1:=by
 rcases adh p.2.1 p.1 q.1 m with⟨f,hf,e⟩|⟨ys,hd,e⟩
 ·rw[e] at ht;exact absurd ht hf
 ·rw[e];exact⟨hd.out h.pm hm,hd.ok h.pm hm⟩
section
variable {p q:dI} {n:Int} (h:kA p q) (h0:yz p q n)
include h h0
theorem zzf{m:fX}(hm:Part p.1 m)(f:gS)(cl:List dI):sK m f p (cl,n,())=some (wH p n m f):=by
 unfold sK XV wH;rw[ahV p m f h.sp h.pe hm.ok,zc];unfold Ji;cases hr:m6 m.1 with
 |false=>rfl
 |true=>
  obtain⟨b1,b2,_⟩:=ajN (akM h0.rp) h.sp h.pe hm f.1 hr;have hp:=aj2 b1;rw[if_pos rfl,if_pos rfl];dsimp only;rw[ai,zD,zzq p.1 _ h.sp.p6 b2.ok,zc,R8 b1];dsimp only;rw[zF (λe=>by rw[e] at hp;exact absurd hp (by decide)),zD];by_cases hn:n<((qX p.1 (AB p m f.1)).size:Int)
  ·rw[zT hn,if_pos hn];rfl
  ·rw[zF hn,if_neg hn];rfl
theorem SH(b:af)(hb:b.size<=1099511627776)(cl:List dI):((wy p.1 b).bind λr2=>(bif(!(decide (r2.2.1=(0:Int)))) then((sK r2.1 r2.2 p (cl,n,())).bind λr3=>some (r3.1,r3.2)) else((yN p.2.1 p.1 q.1 r2.1).bind λr4=>(bif(!(decide (r4.2.1=(0:Int)))) then((sK r2.1 r4.2 p (cl,n,())).bind λr5=>some (r5.1,r5.2)) else((uL q.1 r4.1).bind λr6=>(bif(decide (n<((r6.1).size:Int))) then((sK r2.1 ((5:Int),(129:Int),()) p (cl,n,())).bind λr7=>some (r7.1,r7.2)) else some ((1:Int),r6.1)))))))=some (zP p q n b):=by
 have tv:=ajU p.1 b hb;have oP:=tv.ok;rw[aev p.1 b h.sp.p6 hb,zc];unfold zP Ic;by_cases hd:(uY p.1 b).2.1=0
 case neg=>rw[zF hd,aV,zC,if_pos hd,zzf h h0 tv,zc]
 rw[zT hd,ai,zD,if_neg (λe=>e hd),acp p.2.1 p.1 q.1 _ h.pm (by have:=h.pml;omega) oP (by have:=tv.len;omega) h.sp.p6 h.sq.p6,zc];unfold Ie;by_cases ht:(Af p.2.1 p.1 q.1 (uY p.1 b).1).2.1=0
 case neg=>rw[zF ht,aV,zC,if_pos ht,zzf h h0 tv,zc]
 obtain⟨t1,t2⟩:=ahD h oP ht;rw[zT ht,ai,zD,if_neg (λe=>e ht),zzq q.1 _ h.sq.p6 t2,zc,R8 t1];dsimp only;by_cases hn:n<((qX q.1 (Af p.2.1 p.1 q.1 (uY p.1 b).1).1).size:Int)
 ·rw[zT hn,zC,if_pos hn,zzf h h0 tv,zc]
 ·rw[zF hn,zD,if_neg hn]
end
def sn(p q:dI)(n link:Int)(b:af):Int×af:=
 if¬(oU p q n).1=0 then(0,bs []) else if link=0 then zP p q n b else if link=1 then zP q p n b else(0,bs [])
theorem adt(p q:dI)(n link:Int)(b:af)(h:kA p q)(hb:b.size<=1099511627776):wu ([p,q],n,()) link b=some (sn p q n link b):=by
 unfold wu XU sn;rw[zdp p q n h,zc];by_cases hc:(oU p q n).1=0
 case neg=>rw[zF hc,if_pos hc];rfl
 have h0:=zpi.1 hc;rw[zT hc,ai,zD,if_neg (λe=>e hc)];by_cases l0:link=0
 ·subst l0;rw[if_pos rfl,zF (by decide),zD,zF (by decide),zD];simp only[Ar,As,Io,UU,UW];exact SH h h0 b hb [p,q]
 ·rw[if_neg l0];by_cases l1:link=1
  ·subst l1;rw[if_pos rfl,zF (by decide),zD,zF (by decide),zD];simp only[Ar,As,Ip,UU,UW];exact SH h.symm h0.symm b hb [p,q]
  ·rw[if_neg l1];by_cases l2:link<0
   ·rw[zT l2];rfl
   ·rw[zF l2,zD,zT (by omega)];rfl
theorem adx(p q:dI)(n:Int)(h:kA p q):AU ([p,q],n,())=some (decide ((oU p q n).1=0)):=by unfold AU W4;rw[ado p q n h,zc]
theorem amq{c:Hj}(hc:Wf zzl c):∃p q n,c=([p,q],n,())/\∃g,yE c=some g/\(g=false->kA p q):=by obtain⟨p,q,e⟩:=ahH hc.1.1;obtain⟨cl,n,u⟩:=c;simp only[Prod.mk.injEq] at e;obtain⟨rfl,_⟩:=e;obtain⟨g,hg,oP⟩:=adY (p:=p) (q:=q) hc;exact⟨p,q,n,rfl,g,hg,oP⟩
end eL

namespace eL
open Go.IntKind renaming wrap->zW,i64->zI,u8->zU
open Go Go.Ref
theorem Sa(m:Int):LZ m=some (if m<1\/65535<m then .inl 5 else .inr (0,(m,false,[],()))):=by
 unfold LZ zs4;by_cases h1:m<1
 ·simp [h1]
 ·by_cases h2:65535<m<;>simp [h1,h2]
def ej(m:Int)(l:List Int):Bool×List Int×List af:=l.foldl (dh m) (false,[],[])
theorem aj8(m:Int)(l:List Int):∀(d:Bool) (b:List Int) (o:List af),l.foldl (dh m) (d,b,o)=((l.foldl (dh m) (d,b,[])).1,(l.foldl (dh m) (d,b,[])).2.1,o++(l.foldl (dh m) (d,b,[])).2.2):=by
 induction l with
 |nil=>intro d b o;simp
 |cons c r ih=>
  intro d b o;rw[cw,cw];have h:dh m (d,b,o) c=((dh m (d,b,[]) c).1,(dh m (d,b,[]) c).2.1,o++(dh m (d,b,[]) c).2.2):=by
   unfold dh;simp only;split
   ·simp
   ·split
    ·simp
    ·split<;>simp
  rw[h,ih];generalize dh m (d,b,[]) c=st;obtain⟨d',b',o'⟩:=st;rw[ih d' b' o'];simp
theorem agL(m:Int)(n:Nat)(r:List Int):∀(w:List Int) (o:List af),2<=w.length->n7 w=n->w.length<2+n->
 r.foldl (dh m) (false,w,o)=if r.length<2+n-w.length then(false,w++r,o) else(r.drop (2+n-w.length)).foldl (dh m) (false,[],o++ [strOf ((w++r.take (2+n-w.length)).drop 2)]):=by
 induction r with
 |nil=>intro w o h1 h2 h3;simp;omega
 |cons c r ih=>
  intro w o h1 h2 h3;rw[cw];have lV:n7 (w++ [c])=n:=by
   rw[<-h2];unfold n7;rw[if_neg (by simp;omega),if_neg (by omega)];have e:∀i,i<w.length->(w++ [c]).getD i 0=w.getD i 0:=λi hi=>by rw[aq,List.getElem?_append_left hi,aq]
   rw[e 0 (by omega),e 1 (by omega)]
  have hlen:(w++ [c]).length=w.length+1:=by simp
  have hf:dh m (false,w,o) c=if w.length+1=2+n then(false,[],o++ [strOf ((w++ [c]).drop 2)]) else(false,w++ [c],o):=by
   unfold dh;simp only[lV,hlen];rw[if_neg (by simp),if_neg (by omega)];by_cases e:w.length+1=2+n
   ·rw[if_pos e,if_pos ⟨by omega,by omega⟩]
   ·rw[if_neg e,if_neg (by omega)]
  rw[hf];by_cases e:w.length+1=2+n
  ·rw[if_pos e,if_neg (by simp;omega)];have:2+n-w.length=1:=by omega
   rw[this];simp
  ·rw[if_neg e,ih (w++ [c]) o (by simp;omega) lV (by simp;omega),hlen];have e2:2+n-w.length=(2+n-(w.length+1))+1:=by omega
   rw[e2];by_cases e3:r.length<2+n-(w.length+1)
   ·rw[if_pos e3,if_pos (by simp;omega)];simp
   ·rw[if_neg e3,if_neg (by simp;omega)];simp
theorem Qt(m:Int):∀(n:Nat) (l:List Int) (pos:Int) (o:List af),l.length<=n->0<=pos->(∀x∈l,zn x)->
 l.foldl (dh m) (false,[],o)=(decide (0<=(ri m pos l).2.2.2),(ri m pos l).2.1,o++(ri m pos l).1):=by
 intro n
 induction n using Nat.strongRecOn with
 |_ n ih=>
 intro l pos o hn hp hb;rw[ri];by_cases c0:l.length<2
 ·rw[dif_pos c0]
  match l,c0 with
  | [],_=>simp
  | [x],_=>simp [dh,n7]
 rw[dif_neg c0]
 match l,c0 with
 | [],c0=>exact absurd (by simp) c0
 | [x],c0=>exact absurd (by simp) c0
 |x::y::r,c0=>
  have hz:=PQ hb;have Gu:n7 [x,y]=n7 (x::y::r):=by unfold n7;rw[if_neg (by simp),if_neg (by simp)];rfl
  have h1:dh m (false,[],o) x=(false,[x],o):=by simp [dh,n7]
  rw[cw,cw,h1];have h2:dh m (false,[x],o) y=if n7 (x::y::r)=0\/m<n7 (x::y::r) then(true,[],o) else(false,[x,y],o):=by
   unfold dh;have e1:([x]:List Int)++ [y]=[x,y]:=rfl;simp only[e1,Gu];rw[if_neg (by simp)];by_cases c1:n7 (x::y::r)=0\/m<n7 (x::y::r)
   ·rw[if_pos ⟨rfl,c1⟩,if_pos c1]
   ·rw[if_neg (λh=>c1 h.2),if_neg c1,if_neg];intro h;have:(([x,y]:List Int).length:Int)=2:=rfl;omega
  rw[h2];by_cases c1:n7 (x::y::r)=0\/m<n7 (x::y::r)
  ·rw[if_pos c1,if_pos c1,Jz];have:(0:Int)<=pos+2:=by omega
   simp [this]
  ·rw[if_neg c1,if_neg c1];generalize hzz:n7 (x::y::r)=z at*;have N9:0<z:=by omega
   rw[agL m z.toNat r [x,y] o (by simp) (by rw[Gu];omega) (by simp;omega)];have e0:2+z.toNat-([x,y]:List Int).length=z.toNat:=by simp
   rw[e0];by_cases c3:((x::y::r).length:Int)-2<z
   ·rw[if_pos c3,if_pos (by simp at c3;omega)];simp
   ·rw[if_neg c3,if_neg (by simp at c3;omega)];have hd:(x::y::r).drop (2+z.toNat)=r.drop z.toNat:=by rw[Nat.add_comm];rfl
    have ht:((x::y::r).drop 2).take z.toNat=r.take z.toNat:=rfl;have ht2:([x,y]++r.take z.toNat).drop 2=r.take z.toNat:=rfl;rw[hd,ht,ht2];rw[ih (n-2) (by simp at hn;omega) (r.drop z.toNat) (pos+2+z) _ (by simp at hn⊢;omega) (by omega) (λx hx=>hb x (by simp;exact .inr (.inr (List.mem_of_mem_drop hx))))];simp
theorem akK(m:Int)(l:List Int)(hb:∀x∈l,zn x):ej m l=(decide (0<=(ri m 0 l).2.2.2),(ri m 0 l).2.1,(ri m 0 l).1):=by unfold ej;rw[Qt m l.length l 0 [] (bg _) (by omega) hb];simp
theorem znx(m:Int)(a b:List Int):ej m (a++b)=((b.foldl (dh m) ((ej m a).1,(ej m a).2.1,[])).1,(b.foldl (dh m) ((ej m a).1,(ej m a).2.1,[])).2.1,(ej m a).2.2++(b.foldl (dh m) ((ej m a).1,(ej m a).2.1,[])).2.2):=by unfold ej;rw[dE];generalize a.foldl (dh m) (false,[],[])=st;obtain⟨d,c,o⟩:=st;rw[aj8]
def mm(m:Int)(l:List Int):Fr:=(m,(ej m l).1,(ej m l).2.1,())
theorem agJ(m:Int)(a b:List Int):feed (mm m a) b=((b.foldl (dh m) ((ej m a).1,(ej m a).2.1,[])).2.2,decide ((ej m (a++b)).1=true/\(ej m a).1=false),mm m (a++b)):=by unfold feed mm;rw[znx]
theorem adW(m:Int)(st:Bool×List Int×List af)(c:Int)(hc:zn c)(h:(∀x∈st.2.1,zn x)):∀x∈(dh m st c).2.1,zn x:=by
 unfold dh;split
 ·exact h
 ·split
  ·simp
  ·split
   ·simp
   ·intro x hx;rcases aR.1 hx with hx|hx
    ·exact h x hx
    ·simp at hx;subst hx;exact hc
theorem agK(m:Int)(l:List Int):∀(st:Bool×List Int×List af),(∀x∈l,zn x)->(∀x∈st.2.1,zn x)->∀x∈(l.foldl (dh m) st).2.1,zn x:=by
 induction l with
 |nil=>intro st _ h;exact h
 |cons c r ih=>intro st hl h;exact ih _ (λx hx=>hl x (by simp [hx])) (adW m st c (hl c (by simp)) h)
theorem aho(m:Int)(l:List Int)(h:∀x∈l,zn x):∀x∈(ej m l).2.1,zn x:=agK m l _ h (by simp)
theorem Wc(m:Int)(l:List Int):∀(st:Bool×List Int×List af),(l.foldl (dh m) st).2.1.length<=st.2.1.length+l.length/\(l.foldl (dh m) st).2.2.length<=st.2.2.length+l.length:=by
 induction l with
 |nil=>intro st;simp
 |cons c r ih=>
  intro st;have h:(dh m st c).2.1.length<=st.2.1.length+1/\(dh m st c).2.2.length<=st.2.2.length+1:=by
   unfold dh;split
   ·omega
   ·split
    ·simp
    ·split<;>simp
  have:=ih (dh m st c);simp only[cw,aF];omega
theorem QQ(m:Int)(l:List Int):(ej m l).2.1.length<=l.length/\(ej m l).2.2.length<=l.length:=by have:=Wc m l (false,[],[]);simpa [ej] using this
theorem acy(m:Int)(a:List Int)(s:af)(ha:∀x∈a,zn x)(h:a.length+s.size<=4398046511104):Hy (mm m a) s=some (((bl s).foldl (dh m) ((ej m a).1,(ej m a).2.1,[])).2.2,decide ((ej m (a++bl s)).1=true/\(ej m a).1=false),mm m (a++bl s)):=by rw[amG _ _ (aho m a ha) (by have:=(QQ m a).1;simp only[mm];omega),agJ]
theorem aj9(p:af)(h:p.size<=70000):Hz p=some (if p.size<1\/65535<p.size then(bs [],5) else(strOf [(p.size:Int)/256,(p.size:Int)% 256]++p,0)):=by
 unfold Hz zs5;by_cases h1:p.size<1
 ·rw[zT (by omega),if_pos (.inl h1)];rfl
 rw[zF (by omega),zD];by_cases h2:65535<p.size
 ·rw[zT (by omega),if_pos (.inr h2)];rfl
 rw[zF (by omega),if_neg (by omega),CV,zT (by simp;omega)];have e1:zW zU (Int.fdiv (p.size:Int) (2^min ((8:Int)).toNat 64))=(p.size:Int)/256:=by
  rw[Int.fdiv_eq_ediv_of_nonneg _ (by decide),Jq];have:((2:Int)^min ((8:Int)).toNat 64)=256:=by decide
  rw[this];omega
 have e2:zW zU (p.size:Int)=(p.size:Int)% 256:=Jq _;rw[e1,e2];rfl
section
variable {m:Map} {a b:zf} {x:fX} {ys:List eD}
end
end eL

namespace eL
open Go.IntKind renaming wrap->zW,i64->zI,u8->zU
open Go Go.Ref
section
variable {p q:dI} {n:Int} (h:kA p q) (h0:yz p q n)
include h
include h0
end
end eL

namespace eL
open Go.IntKind renaming wrap->zW,i64->zI,u8->zU
open Go Go.Ref
abbrev oT:=Int×Int×af×Int×Unit
abbrev Gw:=Hj×(ae Fr×ae Fr)×Int
def Ih(i:Int)(x:dN)(s:List dN)(K:List dN->ae (List dN×dI×dI)):ae (List dN×dI×dI):=
 bif(decide (x.2.2.2.2.1.length*32<=140737488355328)) then(bif(decide ((s.length+(ag ([(x.1,x.2.1,x.2.2.1,x.2.2.2.1,x.2.2.2.2.1,())]:List dN)))*64<=140737488355328)) then K (s++ [(x.1,x.2.1,x.2.2.1,x.2.2.2.1,x.2.2.2.2.1,())]) else none) else none
theorem RT(b1 b2:dI):∀(l:List dN) (i:Int) (s:List dN),(∀r∈l,nF r)->s.length+l.length<=1000000->fa Ih (λs=>some (s,b1,b2)) l i s=some (s++l,b1,b2)
 | [],i,s,_,_=>by rw[bY];rfl
 |x::l,i,s,h,hl=>by have hp:=(h x (by simp)).nR.len;simp only[aF] at hl;rw[fa,Ih,zT (by omega),zC,zT (by simp only[aF,cL];omega),zC,RT b1 b2 l (i+1) _ (λr hr=>h r (by simp [hr])) (by simp;omega)];rw[bd];rfl
theorem SE(s:dI)(h:lC s)(hm:mL s.2.1)(h2:s.1.2.2.1.length<=200):L3 s=some s:=by
 have he:=h.zA;have hc:=h.pd;have hl:=hm.len;have ht:=hm.wN.len;unfold L3 zsf;rw[zT (by omega),zC,zT (by omega),zC,zT (by omega),zC,zT (by omega),zC];have:=jz ((0:Int),(0:Int),(0:Int),bs [],([]:List fe),()) s.2.1.2.1 (by rw[zh];omega) Ih (λl=>some (l,(s.1,s.2.1,s.2.2.1,s.2.2.2.1,()),yk))
  (λk i l=>Um k l s.2.1.2.1 (s.2.1.2.1.length:Int) i (s.1,s.2.1,s.2.2.1,s.2.2.2.1,()) yk) (λk i l=>rfl) []
 dsimp only;refine(congrArg (λo=>Option.bind o _) (this.trans (RT _ _ s.2.1.2.1 0 [] hm.rules (by simp;omega)))).trans ?_;rw[zc,b6];unfold zsg;rw[zT (by show s.2.2.1.length*8<=_;omega),zC,zT (by show s.2.2.2.1.length*24<=_;omega),zC]
def gw(c:Hj)(n:Int)(x y:af)(d:Int):Gw:=(c,(some (mm n (bl x)),some (mm n (bl y))),d)
theorem ah0(p q:dI)(n:Int)(h:kA p q):HA ([p,q],n,())=some (if(oU p q n).1=0 then .inr (0,gw ([p,q],n,()) n (bs []) (bs []) 0) else .inl 1):=by
 obtain⟨k,hk⟩:=zto;unfold HA zsc;rw[zdp p q n h,zc];by_cases h0:(oU p q n).1=0
 case neg=>rw[zF h0,if_neg h0];rfl
 rw[zT h0,if_pos h0,ai,zD,hk];have hc:=zpi.1 h0;have hn:¬(n<1\/65535<n):=λe=>by have:=hc.n1;have:=hc.n2;omega
 unfold z91 Lr;simp only[Ar,As,Io,Ip,KL,KM,gp,gq,UU,UW,GO,GQ];rw[zT (by decide:(0:Int)<2),zC,SE p h.sp h.pm h.Ou,zc,Sa,zc,if_neg hn,cc];dsimp only;unfold z91 Lr;simp only[Ar,As,Io,Ip,KL,KM,gp,gq,UU,UW,GO,GQ];rw[zT (by decide:(1:Int)<2),zC,SE q h.sq h.qm h.Ox,zc,Sa,zc,if_neg hn,cc];dsimp only;unfold z91 Lr;rw[zF (by decide:¬(2:Int)<2),zD];rfl
abbrev Ev:=Int×af×Unit
abbrev Item:=Int×ae af
def EB(b:af):af:=if b.size<1\/65535<b.size then bs [] else strOf [(b.size:Int)/256,(b.size:Int)% 256]++b
theorem agM(b:af)(h:b.size<=70000):∃e,Hz b=some (EB b,e):=by
 rw[aj9 b h];unfold EB;by_cases hb:b.size<1\/65535<b.size
 ·rw[if_pos hb,if_pos hb];exact⟨_,rfl⟩
 ·rw[if_neg hb,if_neg hb];exact⟨_,rfl⟩
theorem zgs{n:Int}(hn:n<=65535)(p:dI)(m:fX)(f:gS):(wH p n m f).2.size<=65535:=by
 unfold wH;split
 ·split
  ·exact bR _
  ·rename_i h;show(qX p.1 (AB p m f.1)).size<=65535;omega
 ·exact bR _
theorem PB{n:Int}(hn:n<=65535)(p q:dI)(b:af):(zP p q n b).2.size<=65535:=by
 unfold zP Ic;split
 ·exact zgs hn _ _ _
 ·unfold Ie;split
  ·exact zgs hn _ _ _
  ·split
   ·exact zgs hn _ _ _
   ·rename_i h;show(qX q.1 _).size<=65535;omega
theorem ahb{p q:dI}{n:Int}(link:Int)(b:af):(sn p q n link b).2.size<=65535:=by
 unfold sn;split
 ·exact bR _
 ·rename_i h;have h0:=zpi.1 (Decidable.not_not.1 h);split
  ·exact PB h0.n2 _ _ _
  ·split
   ·exact PB h0.n2 _ _ _
   ·exact bR _
def Ez(p q:dI)(n link d:Int)(b:af):oT×Int:=
 if(sn p q n link b).1=3 then((link,3,bs [],zW zI (d+1),()),zW zI (d+1))
 else if(sn p q n link b).1=1 then((zW zI (1-link),1,EB (sn p q n link b).2,d,()),d)
 else((link,(sn p q n link b).1,EB (sn p q n link b).2,d,()),d)
theorem aeb(p q:dI)(n link d:Int)(b:af)(m:ae Fr×ae Fr)(h:kA p q)(hb:b.size<=1099511627776):
 Kn (([p,q],n,()),m,d) link b=some ((Ez p q n link d b).1,(([p,q],n,()),m,(Ez p q n link d b).2)):=by
 unfold Kn zsa Ez;rw[adt p q n link b h hb,zc];have hs:=ahb (p:=p) (q:=q) (n:=n) link b;obtain⟨e,hp⟩:=agM _ (show(sn p q n link b).2.size<=70000 by omega);generalize sn p q n link b=r at hs hp⊢;by_cases h3:r.1=3
 ·rw[zT h3,if_pos h3,zC,h3]
 rw[zF h3,if_neg h3,zD];by_cases h1:r.1=1
 ·rw[zT h1,if_pos h1,zC,hp,zc,h1]
 ·rw[zF h1,if_neg h1,zD,hp,zc]
def yl(p q:dI)(n d:Int)(it:Item):oT×Int:=match it.2 with
 |some b=>Ez p q n it.1 d b
 |none=>((it.1,4,bs [],d,()),d)
def ib(p q:dI)(n:Int):Int->List Item->List oT×Int
 |d,[]=>([],d)
 |d,it::r=>((yl p q n d it).1::(ib p q n (yl p q n d it).2 r).1,(ib p q n (yl p q n d it).2 r).2)
theorem zhw(p q:dI)(n:Int):∀(a b:List Item) (d:Int),ib p q n d (a++b)=((ib p q n d a).1++(ib p q n (ib p q n d a).2 b).1,(ib p q n (ib p q n d a).2 b).2)
 | [],b,d=>rfl
 |it::a,b,d=>by rw[List.cons_append,ib,ib,zhw p q n a b];rfl
theorem Vu(p q:dI)(n:Int):∀(a:List Item) (d:Int),(ib p q n d a).1.length=a.length
 | [],d=>rfl
 |it::a,d=>by rw[ib,aF,aF,Vu p q n a]
def oO(n:Int)(a:List Int):List (ae af):=(ej n a).2.2.map some++if(ej n a).1=true then [none] else []
def mo(n:Int)(a b:List Int):List (ae af):=(oO n (a++b)).drop (oO n a).length
theorem zdn(n:Int)(a b:List Int):oO n (a++b)=oO n a++((b.foldl (dh n) ((ej n a).1,(ej n a).2.1,[])).2.2.map some++if decide ((ej n (a++b)).1=true/\(ej n a).1=false)=true then [none] else []):=by
 unfold oO;have D3:=znx n a b;cases hd:(ej n a).1 with
 |true=>rw[hd,Jz] at D3;rw[Jz,D3];simp
 |false=>
  rw[hd] at D3;have e1:(ej n (a++b)).2.2=(ej n a).2.2++(b.foldl (dh n) (false,(ej n a).2.1,[])).2.2:=by rw[D3]
  rw[e1];simp
theorem Y5(n:Int)(a b:List Int):mo n a b=(b.foldl (dh n) ((ej n a).1,(ej n a).2.1,[])).2.2.map some++if decide ((ej n (a++b)).1=true/\(ej n a).1=false)=true then [none] else []:=by unfold mo;rw[zdn,List.drop_left]
theorem VE(n:Int)(a b:List Int):oO n (a++b)=oO n a++mo n a b:=by rw[Y5,<-zdn]
theorem adb(n:Int)(a b c:List Int):mo n a (b++c)=mo n a b++mo n (a++b) c:=by have h1:=VE n a (b++c);have h2:=VE n (a++b) c;rw[<-bd,h2,VE n a b,bd] at h1;exact(j4 h1).symm
theorem aku(n:Int)(a:List Int):mo n a []=[]:=by unfold mo;rw[bY,List.drop_length]
theorem z162(n:Int)(a b:List Int):(mo n a b).length<=b.length+1:=by
 rw[Y5];have:=(Wc n b ((ej n a).1,(ej n a).2.1,[])).2;rw[aJ,dG];split
 ·simp at this⊢;omega
 ·simp at this⊢;omega
def BE(k:Int)(i:Int)(x:af)(s:List oT×Gw)(K:List oT×Gw->ae (List oT×Bool×Gw×Ev)):ae (List oT×Bool×Gw×Ev):=
 (Kn s.2 k x).bind λr4=>(bif(decide ((s.1.length+(ag ([r4.1]:List oT)))*40<=140737488355328)) then K (s.1++([r4.1]:List oT),r4.2) else none)
theorem Qn(p q:dI)(n k:Int)(h:kA p q)(m:ae Fr×ae Fr)(b:Bool)(e:Ev):∀(l:List af) (i:Int) (s:List oT) (d:Int),(∀x∈l,x.size<=1099511627776)->s.length+l.length<=3000000000000->
 fa (BE k) (λs=>some (s.1,b,s.2,e)) l i (s,(([p,q],n,()),m,d))=some (s++(ib p q n d (l.map λx=>(k,some x))).1,b,(([p,q],n,()),m,(ib p q n d (l.map λx=>(k,some x))).2),e)
 | [],i,s,d,_,_=>by rw[eH,ib,bY];rfl
 |x::l,i,s,d,hb,hl=>by
  simp only[aF] at hl;rw[fa,BE,aeb p q n k d x m h (hb x (by simp)),zc,zT (by simp only[aF,cL];omega),zC,
   Qn p q n k h m b e l (i+1) _ _ (λy hy=>hb y (by simp [hy])) (by simp;omega),bq,ib,bd]
  rfl
theorem Ca(k:Int):HB k=some (decide (k=0\/k=1)):=by
 unfold HB zsd;by_cases h:k=0
 ·simp [h]
 ·simp [h]
def lz(n:Int)(xy:af×af)(e:Ev):List Item×(af×af):=
 if e.1=0 then((mo n (bl xy.1) (bl e.2.1)).map λi=>((0:Int),i),(xy.1++e.2.1,xy.2))
 else if e.1=1 then((mo n (bl xy.2) (bl e.2.1)).map λi=>((1:Int),i),(xy.1,xy.2++e.2.1))
 else([],xy)
theorem aef(m:Int)(l:List Int):∀(st:Bool×List Int×List af),∀x∈(l.foldl (dh m) st).2.2,x∈st.2.2\/x.size<=st.2.1.length+l.length:=by
 induction l with
 |nil=>intro st x hx;exact .inl hx
 |cons c r ih=>
  intro st x hx;have h:(dh m st c).2.1.length<=st.2.1.length+1/\∀y∈(dh m st c).2.2,y∈st.2.2\/y.size<=st.2.1.length+1:=by
   unfold dh;split
   ·exact⟨by omega,λy hy=> .inl hy⟩
   ·split
    ·exact⟨by simp,λy hy=> .inl hy⟩
    ·split
     ·refine⟨by simp,λy hy=> ?_⟩;rcases aR.1 hy with hy|hy
      ·exact .inl hy
      ·right;have:y=strOf ((st.2.1++ [c]).drop 2):=by simpa using hy
       rw[this,CV,List.length_drop,aJ,aF,cL];omega
     ·exact⟨by simp,λy hy=> .inl hy⟩
  rcases ih (dh m st c) x hx with h1|h1
  ·rcases h.2 x h1 with h2|h2
   ·exact .inl h2
   ·right;simp;omega
  ·right;have:=h.1;simp;omega
theorem Pa(p q:dI)(n k:Int)(h:kA p q)(a c:af)(m:ae Fr×ae Fr)(d:Int)(hs:a.size+c.size<=1000000000000)(F:List oT×Bool×Gw×Ev->ae (List oT×Gw)):
 ((Hy (mm n (bl a)) c).bind λr3=>(Lq bE ([]:List oT) r3.2.1 r3.1 ((ag r3.1):Int) (0:Int) (([p,q],n,()),((n3 k.toNat (some r3.2.2) m),d)) (k,c,())).bind F)=
   F ((ib p q n d (((bl c).foldl (dh n) ((ej n (bl a)).1,(ej n (bl a)).2.1,[])).2.2.map λx=>(k,some x))).1,decide ((ej n (bl a++bl c)).1=true/\(ej n (bl a)).1=false),(([p,q],n,()),n3 k.toNat (some (mm n (bl (a++c)))) m,(ib p q n d (((bl c).foldl (dh n) ((ej n (bl a)).1,(ej n (bl a)).2.1,[])).2.2.map λx=>(k,some x))).2),(k,c,())):=by
 have hla:=zg a;have hlc:=zg c;rw[acy n (bl a) c (λx hx=>sY hx) (by omega),zc];dsimp only;generalize hl:((bl c).foldl (dh n) ((ej n (bl a)).1,(ej n (bl a)).2.1,[])).2.2=l;have hlen:l.length<=c.size:=by have:=(Wc n (bl c) ((ej n (bl a)).1,(ej n (bl a)).2.1,[])).2;rw[hl] at this;simp only[cL] at this;omega
 have lV:∀x∈l,x.size<=1099511627776:=λx hx=>by
  rw[<-hl] at hx;have h1:=(QQ n (bl a)).1;rcases aef n (bl c) _ x hx with h2|h2
  ·cases h2
  ·simp only at h2;omega
 have:=jz (bs []) l (by rw[zh];omega) (BE k) (λs=>some (s.1,decide ((ej n (bl a++bl c)).1=true/\(ej n (bl a)).1=false),s.2,(k,c,())))
  (λj i s=>Lq j s.1 (decide ((ej n (bl a++bl c)).1=true/\(ej n (bl a)).1=false)) l (l.length:Int) i s.2 (k,c,())) (λj i s=>rfl) ([],(([p,q],n,()),(n3 k.toNat (some (mm n (bl a++bl c))) m,d)))
 refine(congrArg (λo=>Option.bind o F) (this.trans (Qn p q n k h _ _ _ l 0 [] d lV (by simp;omega)))).trans ?_;rw[zc,b6,yr]
theorem G6(p q:dI)(n d:Int)(h:kA p q)(x y:af)(e:Ev)(hs:x.size+y.size+e.2.1.size<=1000000000000):
 Fl (gw ([p,q],n,()) n x y d) e=some ((ib p q n d (lz n (x,y) e).1).1,gw ([p,q],n,()) n (lz n (x,y) e).2.1 (lz n (x,y) e).2.2 (ib p q n d (lz n (x,y) e).1).2):=by
 obtain⟨k,c,u⟩:=e;cases u;dsimp only at hs;unfold Fl zs8;rw[Ca,zc];have fin:∀(a:af) (m:ae Fr×ae Fr),a.size+c.size<=1000000000000->k=0\/k=1->
  Ul (ib p q n d (((bl c).foldl (dh n) ((ej n (bl a)).1,(ej n (bl a)).2.1,[])).2.2.map λx=>(k,some x))).1 (decide ((ej n (bl a++bl c)).1=true/\(ej n (bl a)).1=false)) (([p,q],n,()),m,(ib p q n d (((bl c).foldl (dh n) ((ej n (bl a)).1,(ej n (bl a)).2.1,[])).2.2.map λx=>(k,some x))).2) (k,c,()) (λa0 a1=>some (a0,a1))=
  some ((ib p q n d ((mo n (bl a) (bl c)).map λi=>(k,i))).1,(([p,q],n,()),m,(ib p q n d ((mo n (bl a) (bl c)).map λi=>(k,i))).2)):=λa m hs hk=>by
  have hlc:=zg c;have hlen:=(Wc n (bl c) ((ej n (bl a)).1,(ej n (bl a)).2.1,[])).2;rw[Y5,cz,List.map_map,zhw];unfold Ul;generalize hl:((bl c).foldl (dh n) ((ej n (bl a)).1,(ej n (bl a)).2.1,[])).2.2=l at hlen⊢;simp only[cL] at hlen;have e1:((λi=>(k,i))∘some:af->Item)=λx=>(k,some x):=rfl;rw[e1];cases decide ((ej n (bl a++bl c)).1=true/\(ej n (bl a)).1=false) with
  |false=>rw[zD,if_neg (by simp)];simp [ib]
  |true=>rw[zC,if_pos rfl,Vu,dG,zT (by simp only[aF,cL];omega),zC];simp [ib,yl]
 by_cases h0:k=0
 ·subst h0;rw[zT (.inl rfl),ai,zD];dsimp only;rw[Ar];show(getM (0:Int).toNat (some (mm n (bl x)),some (mm n (bl y)))).bind _=_;rw[show getM (0:Int).toNat (some (mm n (bl x)),some (mm n (bl y)))=some (mm n (bl x)) from rfl,zc];refine(Pa p q n 0 h x c (some (mm n (bl x)),some (mm n (bl y))) d (by omega) _).trans ?_;dsimp only;rw[fin x _ (by omega) (.inl rfl)];rfl
 by_cases h1:k=1
 ·subst h1;rw[zT (.inr rfl),ai,zD];dsimp only;rw[As];show(getM (1:Int).toNat (some (mm n (bl x)),some (mm n (bl y)))).bind _=_;rw[show getM (1:Int).toNat (some (mm n (bl x)),some (mm n (bl y)))=some (mm n (bl y)) from rfl,zc];refine(Pa p q n 1 h y c (some (mm n (bl x)),some (mm n (bl y))) d (by omega) _).trans ?_;dsimp only;rw[fin y _ (by omega) (.inr rfl)];rfl
 ·rw[zF (λe=>e.elim h0 h1),aV,zC];unfold lz;rw[if_neg h0,if_neg h1];rfl
def E5(l:List Ev):Nat:=(l.map λe=>e.2.1.size).sum
theorem adg(e:Ev)(l:List Ev):E5 (e::l)=e.2.1.size+E5 l:=by simp [E5]
theorem ace(a b:List Ev):E5 (a++b)=E5 a+E5 b:=by simp [E5]
def lG(n:Int):af×af->List Ev->List Item×(af×af)
 |xy,[]=>([],xy)
 |xy,e::r=>((lz n xy e).1++(lG n (lz n xy e).2 r).1,(lG n (lz n xy e).2 r).2)
theorem z49(n:Int):∀(a b:List Ev) (xy:af×af),lG n xy (a++b)=((lG n xy a).1++(lG n (lG n xy a).2 b).1,(lG n (lG n xy a).2 b).2)
 | [],b,xy=>rfl
 |e::a,b,xy=>by rw[List.cons_append,lG,lG,z49 n a b,bd]
section
variable (p q:dI) (n:Int) (h:kA p q)
include h
end
theorem zzr(c:Hj)(n:Int)(x y:af)(d k:Int):L1 (gw c n x y d) k=some (if k=0 then((ej n (bl x)).2.1.length:Int) else if k=1 then((ej n (bl y)).2.1.length:Int) else 0,gw c n x y d):=by
 unfold L1 zs9;rw[Ca,zc];by_cases h0:k=0
 ·subst h0;rw[if_pos rfl,zT (.inl rfl),ai,zD,Ar];rfl
 by_cases h1:k=1
 ·subst h1;rw[if_neg h0,if_pos rfl,zT (.inr rfl),ai,zD,As];rfl
 ·rw[if_neg h0,if_neg h1,zF (λe=>e.elim h0 h1)];rfl
theorem zzp(c:Hj)(n:Int)(x y:af)(d k:Int):L0 (gw c n x y d) k=some (if k=0 then(ej n (bl x)).1 else if k=1 then(ej n (bl y)).1 else false,gw c n x y d):=by
 unfold L0 zs6;rw[Ca,zc];by_cases h0:k=0
 ·subst h0;rw[if_pos rfl,zT (.inl rfl),zC,Ar];rfl
 by_cases h1:k=1
 ·subst h1;rw[if_neg h0,if_pos rfl,zT (.inr rfl),zC,As];rfl
 ·rw[if_neg h0,if_neg h1,zF (λe=>e.elim h0 h1)];rfl
end eL

namespace eL
open Go.IntKind renaming wrap->zW,i64->zI,u8->zU
open Go Go.Ref
section
variable (p q:dI) (n:Int) (h:kA p q) (hc:(oU p q n).1=0)
include h hc
omit h hc in
end
end eL

namespace eL
open Go.IntKind renaming wrap->zW,i64->zI,u8->zU
open Go Go.Ref
theorem VN(a b:List oT)(h:a.length<=maxLen):yF a b=some (decide (a=b)):=by
 unfold yF Xa;by_cases hl:a.length=b.length
 ·rw[zT (by omega)];simp only[ai,zD];rw[ahp ((0:Int),(0:Int),bs [],(0:Int),()) (λx y=>(decide (x.1=y.1))&&((decide (x.2.1=y.2.1))&&((decide (x.2.2.1=y.2.2.1))&&((decide (x.2.2.2.1=y.2.2.2.1))&&true)))) (λx y=>by obtain⟨x1,x2,x3,x4,x5⟩:=x;obtain⟨y1,y2,y3,y4,y5⟩:=y;simp) a b hl h (λk i=>Tz k a b i) (λk i=>rfl)]
  by_cases e:a=b
  ·simp [e,Xc]
  ·simp [e,Xb]
 ·rw[zF (by omega)];have:a≠b:=λe=>hl (by rw[e]);simp [this]
section
variable (p q:dI) (n:Int) (h:kA p q) (hc:(oU p q n).1=0)
include h hc
end
end eL

namespace eL
open Go.IntKind renaming wrap->zW,i64->zI,u8->zU
open Go Go.Ref
theorem ad3(n:Int):oO n []=[]:=by simp [oO,ej]
theorem ad4(n pos:Int)(l:List Int)(hp:0<=pos)(hb:∀x∈l,zn x):oO n l=(ri n pos l).1.map some++if 0<=(ri n pos l).2.2.2 then [none] else []:=by unfold oO ej;rw[Qt n l.length l pos [] (bg _) hp hb];simp
theorem agR(n:Int)(l:List Int)(hb:∀x∈l,zn x)(h:¬l.length<2)(hz:n7 l=0\/n<n7 l):oO n l=[none]:=by rw[ad4 n 0 l (by omega) hb,ri,dif_neg h,if_pos hz];rfl
def uU(l:List Ev):List Int:=(l.map λe=>bl e.2.1).flatten
theorem Qe(e:Ev)(l:List Ev):uU (e::l)=bl e.2.1++uU l:=by simp [uU]
theorem adB(a b:List Ev):uU (a++b)=uU a++uU b:=by simp [uU]
theorem adC(l:List Ev):(uU l).length=E5 l:=by
 induction l with
 |nil=>rfl
 |cons e l ih=>rw[Qe,adg,aJ,zg,ih]
def vQ(k:Int)(xy:af×af):af:=if k=0 then xy.1 else xy.2
theorem zzd(n k:Int)(hk:k=0\/k=1):∀(l:List Ev) (xy:af×af),(∀e∈l,e.1=k)->
 (lG n xy l).1=(mo n (bl (vQ k xy)) (uU l)).map (λi=>(k,i))/\bl (vQ k (lG n xy l).2)=bl (vQ k xy)++uU l/\vQ (1-k) (lG n xy l).2=vQ (1-k) xy
 | [],xy,_=>by rw[lG];exact⟨by rw[show uU []=[] from rfl,aku];rfl,by rw[show uU []=[] from rfl,bY],rfl⟩
 |e::l,xy,he=>by
  obtain⟨h1,h2,h3⟩:=zzd n k hk l (lz n xy e).2 (λx hx=>he x (by simp [hx]));have e1:=he e (by simp);have hn:(lz n xy e).1=(mo n (bl (vQ k xy)) (bl e.2.1)).map (λi=>(k,i))/\bl (vQ k (lz n xy e).2)=bl (vQ k xy)++bl e.2.1/\vQ (1-k) (lz n xy e).2=vQ (1-k) xy:=by
   unfold lz vQ;rcases hk with rfl|rfl
   ·rw[if_pos e1];simp [yr]
   ·rw[if_neg (by omega),if_pos e1];simp [yr]
  rw[lG,h1,h2,h3,hn.1,hn.2.1,hn.2.2,Qe,adb,cz,bd];exact⟨rfl,rfl,rfl⟩
def Ik(k:Int)(a:af)(l:List Ev):af:=l.foldl (λa e=>if e.1=k then a++e.2.1 else a) a
theorem Ps(n:Int):∀(l:List Ev) (x y:af),(lG n (x,y) l).2=(Ik 0 x l,Ik 1 y l)
 | [],x,y=>rfl
 |e::l,x,y=>by
  rw[lG];dsimp only;have hn:(lz n (x,y) e).2=(if e.1=0 then x++e.2.1 else x,if e.1=1 then y++e.2.1 else y):=by
   unfold lz;by_cases h0:e.1=0
   ·rw[if_pos h0,if_pos h0,if_neg (by omega)]
   ·rw[if_neg h0,if_neg h0];by_cases h1:e.1=1
    ·rw[if_pos h1,if_pos h1]
    ·rw[if_neg h1,if_neg h1]
  rw[hn,Ps n l];rfl
theorem zhr(n:Int)(S:List Int){a b:Nat}(h:a<=b):oO n (S.take b)=oO n (S.take a)++mo n (S.take a) ((S.take b).drop a):=by
 rw[<-VE];congr 1;have:S.take a=(S.take b).take a:=by rw[List.take_take,bL h]
 rw[this,fG]
theorem ad5(n:Int)(S:List Int){a b:Nat}(h:a<=b):(oO n (S.take a)).length<=(oO n (S.take b)).length:=by rw[zhr n S h,aJ];omega
theorem akv(n:Int)(S:List Int){f f' c c':Nat}(h1:oO n (S.take f)=oO n (S.take c))(h2:oO n (S.take f')=oO n (S.take c'))(hf:f<=f')(hc:c<=c'):
 mo n (S.take f) ((S.take f').drop f)=mo n (S.take c) ((S.take c').drop c):=by
 rw[zhr n S hf,zhr n S hc,h1] at h2;exact j4 h2
section
variable (p q:dI) (n:Int) (h:kA p q) (hc:(oU p q n).1=0)
include h hc
end
end eL

namespace eL
open Go.IntKind renaming wrap->zW,i64->zI,u8->zU
open Go Go.Ref
def qq(k:Int)(l:List Ev):List Int:=uU (l.filter λe=>decide (e.1=k))
theorem VI(k:Int)(a b:List Ev):qq k (a++b)=qq k a++qq k b:=by unfold qq;rw[List.filter_append,adB]
theorem R0(k:Int)(e:Ev):qq k [e]=if e.1=k then bl e.2.1 else []:=by
 unfold qq;by_cases h:e.1=k
 ·rw[if_pos h,List.filter_cons_of_pos (by simpa using h)];simp [uU]
 ·rw[if_neg h,j5 (by simpa using h)];simp [uU]
theorem Wj(k:Int)(l:List Ev){j:Nat}(h:j<l.length):qq k (l.take (j+1))=qq k (l.take j)++if l[j].1=k then bl l[j].2.1 else []:=by rw[<-de h,VI,R0]
theorem Jo(k:Int):∀(l:List Ev) (a:af),bl (Ik k a l)=bl a++qq k l
 | [],a=>by rw[show qq k []=[] from rfl,bY];rfl
 |e::l,a=>by
  rw[show Ik k a (e::l)=Ik k (if e.1=k then a++e.2.1 else a) l from rfl,Jo k l,show e::l=[e]++l from rfl,VI,R0];by_cases h:e.1=k
  ·rw[if_pos h,if_pos h,yr,bd]
  ·rw[if_neg h,if_neg h,b6]
theorem R3(k:Int)(l:List Ev)(j:Nat):(qq k l).take (qq k (l.take j)).length=qq k (l.take j):=by
 have:qq k l=qq k (l.take j)++qq k (l.drop j):=by rw[<-VI,fG]
 rw[this,List.take_left'];rfl
theorem aod(k:Int)(l:List Ev)(j:Nat):(qq k (l.take j)).length<=(qq k l).length:=by
 have:qq k l=qq k (l.take j)++qq k (l.drop j):=by rw[<-VI,fG]
 rw[this,aJ];omega
abbrev KP:af×af:=(bs [],bs [])
structure tO(n:Int)(l:List Ev)(k:Int)(S So:List Int)(j:Nat)(out:List Ev)(c co t tt f fo:Nat):Prop where
 its:(lG n KP out).1=(lG n KP (l.take j)).1
 b:bl (vQ k (lG n KP out).2)=S.take f
 bo:bl (vQ (1-k) (lG n KP out).2)=So.take fo
 i:oO n (S.take f)=oO n (S.take c)
 io:oO n (So.take fo)=oO n (So.take co)
 nn:t=(oO n (S.take f)).length
 nno:tt=(oO n (So.take fo)).length
 g:f<=c
 go:fo<=co
 d:c=(qq k (l.take j)).length
 dd:co=(qq (1-k) (l.take j)).length
 e:S=qq k l
 eo:So=qq (1-k) l
 len:out.length=t+tt
 siz:E5 out=f+fo
theorem tO.swap{n:Int}{l:List Ev}{k:Int}{S So:List Int}{j:Nat}{out:List Ev}{c co t tt f fo:Nat}(h:tO n l k S So j out c co t tt f fo):tO n l (1-k) So S j out co c tt t fo f:=by
 have e:1-(1-k)=k:=by omega
 exact⟨h.its,h.bo,by rw[e];exact h.b,h.io,h.i,h.nno,h.nn,h.go,h.g,h.dd,by rw[e];exact h.d,h.eo,by rw[e];exact h.e,by rw[h.len];omega,by rw[h.siz];omega⟩
theorem ahq(n k:Int)(hk:k=0\/k=1)(l:List Ev):bl (vQ k (lG n KP l).2)=qq k l:=by
 rw[Ps];unfold vQ;rcases hk with rfl|rfl
 ·rw[if_pos rfl];show bl (Ik 0 (bs []) l)=_;rw[Jo];rfl
 ·rw[if_neg (by decide)];show bl (Ik 1 (bs []) l)=_;rw[Jo];rfl
theorem akt(n k:Int)(hk:k=0\/k=1)(xy:af×af)(e:Ev)(he:e.1=k):(lz n xy e).1=(mo n (bl (vQ k xy)) (bl e.2.1)).map λi=>(k,i):=by have:=(zzd n k hk [e] xy (λx hx=>by simp at hx;rw[hx];exact he)).1;rw[lG,lG] at this;simpa [uU] using this
theorem tO.step{n:Int}{l:List Ev}{k:Int}(hk:k=0\/k=1){S So:List Int}{j:Nat}{out:List Ev}{c co t tt f fo:Nat}(h:tO n l k S So j out c co t tt f fo)(hj:j<l.length)(he:l[j].1=k)
 {new:List Ev} {c' t' f':Nat} (hc:c'=c+l[j].2.1.size) (hn:∀e∈new,e.1=k) (hb:uU new=(S.take f').drop f) (h1:f<=f') (h2:f'<=c') (hi:oO n (S.take f')=oO n (S.take c')) (ht:t'=(oO n (S.take f')).length) (hl:new.length=t'-t):
 tO n l k S So (j+1) (out++new) c' co t' tt f' fo:=by
 have hs:=Wj k l hj;rw[if_pos he] at hs;have Kt:c'=(qq k (l.take (j+1))).length:=by rw[hs,aJ,<-h.d,zg,hc]
 have hle:=aod k l (j+1);rw[<-Kt,<-h.e] at hle;have hp:=R3 k l (j+1);have hp0:=R3 k l j;rw[<-Kt,<-h.e] at hp;rw[<-h.d,<-h.e] at hp0;have aak:c<=c':=by omega
 have hch:(S.take c').drop c=bl l[j].2.1:=by rw[hp,hs,h.d,List.drop_left'];rfl
 obtain⟨o1,o2,o3⟩:=zzd n k hk new (lG n KP out).2 hn;have htt:t<=t':=by rw[h.nn,ht];exact ad5 n S h1
 have oC:=Wj (1-k) l hj;rw[if_neg (by omega),bY] at oC;refine⟨?_,?_,?_,hi,h.io,ht,h.nno,h2,h.go,Kt,by rw[oC];exact h.dd,h.e,h.eo,by rw[aJ,h.len,hl];omega,?_⟩
 ·rw[z49];dsimp only;rw[o1,h.b,hb,akv n S h.i hi h1 aak,<-de hj,z49,h.its];dsimp only;rw[lG,lG,akt n k hk _ _ he,ahq n k hk,hch,hp0,bY]
 ·rw[z49];dsimp only;rw[o2,h.b,hb];have:S.take f=(S.take f').take f:=by rw[List.take_take,bL h1]
  rw[this,fG]
 ·rw[z49];dsimp only;rw[o3,h.bo]
 ·rw[ace,h.siz,<-adC new,hb,List.length_drop,aU,bL (by omega)];omega
theorem tO.none{n:Int}{l:List Ev}{S So:List Int}{j:Nat}{out:List Ev}{c co t tt f fo:Nat}(h:tO n l 0 S So j out c co t tt f fo)(hj:j<l.length)(h0:¬l[j].1=0)(h1:¬l[j].1=1):
 tO n l 0 S So (j+1) out c co t tt f fo:=by
 have hs:=Wj 0 l hj;have oC:=Wj (1-0) l hj;rw[if_neg h0,bY] at hs;rw[if_neg (by omega),bY] at oC;refine⟨?_,h.b,h.bo,h.i,h.io,h.nn,h.nno,h.g,h.go,by rw[hs];exact h.d,by rw[oC];exact h.dd,h.e,h.eo,h.len,h.siz⟩;have hn:∀xy,lz n xy l[j]=([],xy):=λxy=>by unfold lz;rw[if_neg h0,if_neg h1]
 rw[<-de hj,z49,h.its];dsimp only;rw[lG,lG,hn];simp
def two{α:Type}(k:Int)(a b:α):List α:=if k=0 then [a,b] else [b,a]
structure aac(C:Hj)(p q:dI)(n:Int):Prop where
 eq:C=([p,q],n,())
 ok:kA p q
 c0:(oU p q n).1=0
 inv:aaJ p.2.1 p.1 q.1=true
 turn:GX p.2.1=q.2.1
theorem amN:rG=some true:=by kernel_rfl
theorem QI(n:Int)(a b:List Int)(h:(ej n a).1=true):mo n a b=[]:=by rw[Y5,h,Jz];simp
theorem sW(c:Hj)(link:Int)(more:List af)(hc:Wf zzl c)(hk:Wf (.int .i64) link)(hm:Wf (.arr 2 .str) more):AW c link more=some true:=by
 obtain⟨p,q,n,rfl,g,hg,oP⟩:=amq hc;obtain⟨m0,m1,rfl⟩:∃m0 m1,more=[m0,m1]:=by
  have:=hm.1
  match more,this with
  | [m0,m1],_=>exact⟨m0,m1,rfl⟩
 unfold AW Xd;rw[amN,zc,ai,zD,hg,zc];cases g with
 |true=>rw[zC,zc]
 |false=>
 have h:=oP rfl;rw[zD,adx p q n h,zc];by_cases h0:(oU p q n).1=0
 case neg=>rw[zF h0,aV,zC,zc]
 simp only[Ar,As,show ah [m0,m1] (0:Int).toNat (bs [])=m0 from rfl,show ah [m0,m1] (1:Int).toNat (bs [])=m1 from rfl];rw[zT h0,ai,zD];by_cases na:(1500:Int)<(m0.size:Int)
 ·rw[zT na,zC,zc]
 rw[zF na,zD];by_cases CM:(1500:Int)<(m1.size:Int)
 ·rw[zT CM,zC,zc]
 rw[zF CM,zD];by_cases k0:link<0
 ·rw[zT k0,zC,zc]
 rw[zF k0,zD];by_cases k1:1<link
 ·rw[zT k1,zC,zc]
 rw[zF k1,zD,ah0 p q n h,if_pos h0,zc,cc,zc,cc];have B6:(bs [0,0]).size=2:=rfl;have N9:(bs []).size=0:=rfl;have hd:∀s:af,oO n (bl (bs [0,0]++s))=[none]:=λs=>by
  rw[yr,show bl (bs [0,0])=[0,0] from rfl];refine agR n _ (λx hx=> ?_) (by simp) (.inl rfl);rcases aR.1 hx with hx|hx
  ·simp at hx;rw[hx];exact⟨by decide,by decide⟩
  ·exact sY hx
 have hr:∀s:af,(ej n (bl (bs [0,0]++s))).1=true/\(ej n (bl (bs [0,0]++s))).2.1=[]:=λs=>by
  have h1:=akK n (bl (bs [0,0]++s)) (λx hx=>sY hx);have h2:¬(bl (bs [0,0]++s)).length<2:=by rw[zg,ci];omega
  rw[ri,dif_neg h2,if_pos (.inl (by rw[yr];rfl))] at h1;rw[h1];exact⟨rfl,rfl⟩
 have q7:∀s:af,mo n (bl (bs [])) (bl s)=oO n (bl s):=λs=>by show mo n [] (bl s)=_;unfold mo;rw[ad3,b6];rfl
 have D5:∀s:af,bs []++s=s:=λs=>by apply ByteArray.ext;simp [ByteArray.data_append];rfl
 have NI:link=0\/link=1:=by omega
 rw[zT (by rw[B6];omega),zC];rcases NI with rfl|rfl
 ·have w10:zW zI (1-0)=1:=rfl;have d1:lz n (bs [],bs []) ((0:Int),bs [0,0]++m0,())=([((0:Int),none)],(bs [0,0]++m0,bs [])):=by unfold lz;rw[if_pos rfl,q7,hd,D5];rfl
  have d2:lz n (bs [0,0]++m0,bs []) ((0:Int),m0,())=([],(bs [0,0]++m0++m0,bs [])):=by unfold lz;rw[if_pos rfl,QI n _ _ (hr m0).1];rfl
  have d3:∀x:af,lz n (x,bs []) ((1:Int),m1,())=((oO n (bl m1)).map λi=>((1:Int),i),(x,m1)):=λx=>by unfold lz;rw[if_neg (show¬(1:Int)=0 by decide),if_pos rfl,q7,D5]
  rw[w10,G6 p q n 0 h (bs []) (bs []) _ (by dsimp only;rw[ci,B6];omega),zc,d1];dsimp only;rw[show ib p q n 0 [((0:Int),none)]=([((0:Int),4,bs [],0,())],0) from rfl,G6 p q n 0 h (bs [0,0]++m0) (bs []) _ (by dsimp only;rw[ci,B6];omega),zc,d2];dsimp only;rw[show ib p q n 0 []=([],0) from rfl,G6 p q n 0 h (bs [0,0]++m0++m0) (bs []) _ (by dsimp only;rw[ci,ci,B6];omega),zc,d3,G6 p q n 0 h (bs []) (bs []) _ (by dsimp only;omega),zc,d3];dsimp only;have hl:=z162 n [] (bl m1);rw[show mo n [] (bl m1)=oO n (bl m1) from q7 m1,zg] at hl;rw[VN _ _ (by rw[zh];simp),zc,zT rfl,zC];rw[show(([]:List oT).length:Int)=0 from rfl,zT rfl,zC,VN _ _ (by rw[Vu,dG,zh];omega),zc,zT rfl,zC,zzp,zc,if_pos rfl];have mG:=hr (m0++m0);rw[<-gV] at mG;dsimp only;rw[mG.1,zC,zzr,zc,if_pos rfl,mG.2];rfl
 ·have w11:zW zI (1-1)=0:=rfl;have d1:lz n (bs [],bs []) ((1:Int),bs [0,0]++m0,())=([((1:Int),none)],(bs [],bs [0,0]++m0)):=by unfold lz;rw[if_neg (show¬(1:Int)=0 by decide),if_pos rfl,q7,hd,D5];rfl
  have d2:lz n (bs [],bs [0,0]++m0) ((1:Int),m0,())=([],(bs [],bs [0,0]++m0++m0)):=by unfold lz;rw[if_neg (show¬(1:Int)=0 by decide),if_pos rfl,QI n _ _ (hr m0).1];rfl
  have d3:∀x:af,lz n (bs [],x) ((0:Int),m1,())=((oO n (bl m1)).map λi=>((0:Int),i),(m1,x)):=λx=>by unfold lz;rw[if_pos rfl,q7,D5]
  rw[w11,G6 p q n 0 h (bs []) (bs []) _ (by dsimp only;rw[ci,B6];omega),zc,d1];dsimp only;rw[show ib p q n 0 [((1:Int),none)]=([((1:Int),4,bs [],0,())],0) from rfl,G6 p q n 0 h (bs []) (bs [0,0]++m0) _ (by dsimp only;rw[ci,B6];omega),zc,d2];dsimp only;rw[show ib p q n 0 []=([],0) from rfl,G6 p q n 0 h (bs []) (bs [0,0]++m0++m0) _ (by dsimp only;rw[ci,ci,B6];omega),zc,d3,G6 p q n 0 h (bs []) (bs []) _ (by dsimp only;omega),zc,d3];dsimp only;have hl:=z162 n [] (bl m1);rw[show mo n [] (bl m1)=oO n (bl m1) from q7 m1,zg] at hl;rw[VN _ _ (by rw[zh];simp),zc,zT rfl,zC];rw[show(([]:List oT).length:Int)=0 from rfl,zT rfl,zC,VN _ _ (by rw[Vu,dG,zh];omega),zc,zT rfl,zC,zzp,zc,if_neg (by decide),if_pos rfl];have mG:=hr (m0++m0);rw[<-gV] at mG;dsimp only;rw[mG.1,zC,zzr,zc,if_neg (by decide),if_pos rfl,mG.2];rfl
end eL

namespace Go.Proofs.YtodeabafemckjaaGreatDoor
noncomputable section
open Go Go.Ref eL
abbrev y0:Go.Ref.Ty:=(.int .u8)
abbrev y1:Go.Ref.Ty:=(.int .i64)
abbrev y2:Go.Ref.Ty:=(.int .u64)
abbrev y3:Go.Ref.Ty:=(.sl 9 .str)
abbrev y4:Go.Ref.Ty:=(.arr 2 .str)
abbrev y5:Go.Ref.Ty:=(.pair .str .unit)
abbrev y6:Go.Ref.Ty:=(.sl 5 y0)
abbrev y7:Go.Ref.Ty:=(.sl 3 y1)
abbrev y8:Go.Ref.Ty:=(.arr 8 y0)
abbrev y9:Go.Ref.Ty:=(.sl 41 y1)
abbrev KN:Go.Ref.Ty:=(.dC .mp .str .bool)
abbrev Vm:Go.Ref.Ty:=(.pair y0 .unit)
abbrev Vn:Go.Ref.Ty:=(.dC .iter .unit .unit)
abbrev Vo:Go.Ref.Ty:=(.pair y1 .unit)
abbrev y14:Go.Ref.Ty:=(.pair y2 .unit)
abbrev Vp:Go.Ref.Ty:=(.sl 29 y7)
abbrev KO:Go.Ref.Ty:=(.pair .str y5)
abbrev EL:Go.Ref.Ty:=(.dC (.qV 131 5) .unit .unit)
abbrev y18:Go.Ref.Ty:=(.pair y6 .unit)
abbrev nD:Go.Ref.Ty:=(.pair y1 y5)
abbrev y20:Go.Ref.Ty:=(.pair .str Vo)
abbrev nL:Go.Ref.Ty:=(.sl 164 KO)
abbrev mc:Go.Ref.Ty:=(.pair y1 Vo)
abbrev lQ:Go.Ref.Ty:=(.pair y2 y14)
abbrev y24:Go.Ref.Ty:=(.pair .bool y18)
abbrev At:Go.Ref.Ty:=(.sl 80 nD)
abbrev vH:Go.Ref.Ty:=(.sl 162 nD)
abbrev y27:Go.Ref.Ty:=(.pair (.arr 2 .bool) Vo)
abbrev uu:Go.Ref.Ty:=(.sl 271 nD)
abbrev y29:Go.Ref.Ty:=(.pair nL .unit)
abbrev y30:Go.Ref.Ty:=(.pair y1 (.pair .bool Vm))
abbrev y31:Go.Ref.Ty:=(.pair y1 y20)
abbrev y32:Go.Ref.Ty:=(.pair At .unit)
abbrev y33:Go.Ref.Ty:=(.pair vH .unit)
abbrev y34:Go.Ref.Ty:=(.dC (.CF 181) nD .unit)
abbrev y35:Go.Ref.Ty:=(.pair y1 mc)
abbrev oZ:Go.Ref.Ty:=(.pair y1 y24)
abbrev y37:Go.Ref.Ty:=(.pair .str y29)
abbrev gO:Go.Ref.Ty:=(.pair .str y32)
abbrev y39:Go.Ref.Ty:=(.pair (.arr 2 y1) y27)
abbrev y40:Go.Ref.Ty:=(.pair y1 y30)
abbrev OP:Go.Ref.Ty:=(.pair y1 y31)
abbrev y42:Go.Ref.Ty:=(.pair y1 y35)
abbrev yp:Go.Ref.Ty:=(.sl 51 OP)
abbrev y44:Go.Ref.Ty:=(.pair y1 y37)
abbrev y45:Go.Ref.Ty:=(.pair y7 y33)
abbrev y46:Go.Ref.Ty:=(.pair y4 y39)
abbrev kP:Go.Ref.Ty:=(.pair y1 y42)
abbrev y48:Go.Ref.Ty:=(.pair y1 y44)
abbrev Vq:Go.Ref.Ty:=(.sl 127 kP)
abbrev lg:Go.Ref.Ty:=(.pair y1 y48)
abbrev y51:Go.Ref.Ty:=(.pair Vq .unit)
abbrev Au:Go.Ref.Ty:=(.sl 158 lg)
abbrev y53:Go.Ref.Ty:=(.pair y1 y51)
abbrev y54:Go.Ref.Ty:=(.pair Au .unit)
abbrev cZ:Go.Ref.Ty:=(.pair y1 y53)
abbrev y56:Go.Ref.Ty:=(.sl 24 cZ)
abbrev lA:Go.Ref.Ty:=(.pair nL y54)
abbrev y58:Go.Ref.Ty:=(.pair lA y45)
abbrev jG:Go.Ref.Ty:=(.pair cZ y58)
abbrev y60:Go.Ref.Ty:=(.arr 2 jG)
abbrev nE:Go.Ref.Ty:=(.pair y60 Vo)
abbrev qM:Go.Ref.Ty:=(.dC .kF nE oZ)
def KK:List (ae Ty):=[none,none,some y1,some y1,some .bool,some y0,some y0,some y40,some y40,some .str,some .str,some .str,some y2,none,none,none,none,none,none,none,none,some (.int .i32),some Vq,some cZ,some cZ,some nL,some Au,some lA,some lA,some y7,some vH,some jG,some jG,some y60,some nE,some nE,some y3,none,none,none,some yp,some y1,none,none,none,none,none,none,some nD,some nD,some OP,some OP,none,none,some y4,none,none,none,none,none,none,none,none,none,none,some y2,some (.sl 49 nD),none,none,none,none,none,none,none,none,some mc,some mc,none,none,some nD,some nD,some At,some gO,some gO,none,none,none,none,none,none,none,none,some y6,none,none,none,none,none,none,none,none,none,none,none,none,none,none,some y2,some lQ,some lQ,none,none,none,some (.arr 2 y1),some (.arr 2 .bool),some y46,some y46,none,none,none,none,none,none,none,some Vp,none,some kP,some kP,none,none,none,none,none,none,none,none,none,none,none,none,none,none,none,none,none,none,none,none,none,none,none,none,none,none,none,none,none,some lg,some lg,none,none,some nD,some nD,some KO,some KO,none,none,none,none,none,some oZ,some oZ,none,none,none,none,none,none,none,none,none,none,none,none,none,none,none,none,none,some y8,none,none,none,none,none,none,none,none,none,none,none,none,none,none,none,none,none,none,none,none,none,none,none,none,none,none,none,none,none,none,none,none,none,none,none,some y56,none,none,none,none,none,some y9,none,none,none,none,none,some uu,none,none,none,none,none,none,none,none,none,none,none,none,none,none,none,none,none,none,none,none,none,none,none,none,none,none,none,none,some (.arr 5 .str),none,none,none,some nD,some nD,none,none,none,none,none,none,none,none,none,none,none,none,none,none,none,none,none,none,none,none,none,none,none,none,none,none,none,none,none,some (.arr 256 .bool),some (.arr 256 .bool),none,none,none,none,none,none,none,none,none,none,none,none,some (.arr 24 y0),none,none,none,some (.int .u32),none,none,none,none,none,none,none,none,some (.arr 20 y2),some (.arr 65 y0),none,none,none,none,some (.arr 256 y0),some (.pair y0 Vm),some (.pair y0 Vm),some (.arr 16 (.pair y0 Vm)),none,some (.arr 32 y0),some (.arr 64 y0),none,none,none,none,none,some y0,some y0,none,some (.int .i32),some (.int .i32),none,none]
def bts:List Nat:=[0,8,8,8,1,1,1,24,24,16,16,16,8,24,24,8,8,8,8,8,16,4,24,40,40,24,24,48,48,24,24,136,136,272,280,280,24,8,8,8,24,8,0,8,8,0,8,8,24,24,40,40,8,8,32,8,8,8,8,8,8,0,8,8,8,8,24,8,8,0,8,8,8,8,8,16,16,0,8,24,24,24,40,40,0,8,0,8,8,8,0,8,24,0,8,8,16,304,304,8,0,8,0,8,8,8,8,8,16,16,8,8,8,16,2,64,64,8,8,0,8,8,8,8,24,8,40,40,8,8,32,32,16,16,0,8,8,8,8,8,0,8,8,8,0,8,0,8,0,8,8,0,8,8,8,8,8,64,64,8,8,24,24,32,32,8,8,8,8,8,40,40,8,8,8,8,8,8,8,0,8,8,0,8,8,8,8,0,8,8,8,8,8,8,8,8,0,8,0,8,8,8,8,0,8,8,8,8,8,8,0,8,0,8,8,8,8,8,8,8,8,8,8,8,8,24,8,8,8,8,8,24,0,8,0,8,8,24,0,8,8,8,8,8,8,8,8,8,8,0,8,8,0,8,8,8,8,8,8,0,8,8,8,8,8,8,80,8,8,8,24,24,8,8,8,8,8,8,8,8,0,8,0,8,8,8,8,0,8,8,8,8,0,8,8,8,0,8,8,8,8,256,256,0,8,8,8,8,0,8,8,8,8,8,8,24,8,0,8,4,0,8,8,0,8,8,8,8,160,65,8,8,8,8,256,2,2,32,8,32,64,40,40,0,0,0,1,1,8,4,4,48,48]
def GM:List Bool:=[false,false,false,false,false,false,false,false,false,false,false,false,false,false,false,true,true,true,false,false,false,false,false,false,false,false,false,false,false,false,false,false,false,false,false,false,false,false,false,false,false,false,false,false,true,false,false,false,false,false,false,false,false,false,false,false,false,false,false,false,false,false,false,false,false,false,false,false,false,false,false,false,false,false,false,false,false,false,false,false,false,false,false,false,false,false,false,false,false,false,false,false,false,false,false,true,false,false,false,false,false,false,false,false,false,false,false,false,false,false,false,false,true,false,false,false,false,false,false,false,false,false,false,false,false,false,false,false,false,true,false,false,false,false,false,false,false,false,false,false,false,false,false,false,false,false,false,false,false,false,false,false,false,false,false,false,false,false,false,false,false,false,false,false,false,false,false,false,false,false,false,false,false,false,false,false,false,false,false,false,false,false,false,false,false,false,false,false,false,false,false,false,false,false,true,false,false,false,false,false,false,false,false,false,false,false,false,false,false,false,false,false,false,false,false,false,false,false,false,false,false,false,false,false,false,false,false,false,false,false,false,false,false,false,false,false,false,false,false,false,false,false,false,false,false,false,false,false,false,false,false,false,false,false,false,false,false,false,false,false,false,false,false,false,false,false,false,false,false,false,false,false,false,false,false,false,false,false,false,false,false,false,false,false,false,false,false,false,false,false,false,false,false,false,false,false,false,false,false,false,false,false,false,false,false,false,true,false,false,false,false,false,false,false,false,false,false,false,false,false,false,false,false,false,false,false,false,false,false,false,false,false,false,false,false,false,false,false,false,false,false,false,false,false,false,false,false,false,false,false,false,false,false]
def Vd:List (TypeId×TypeId×TypeId):=[(226,9,4),(268,3,4)]
def jo:xK:=⟨KK,bts,GM,Vd⟩
theorem zug:jo.ok aj=true:=by kernel_rfl
theorem ei{a b c d}:bN aj (jo.env a b c d):=xK.ua zug a b c d
abbrev e0(ps:List Ty):Env:=jo.env (λ_=>[]) (λ_=>[]) [] ps
abbrev uS(n:Nat)(l:List (List SV)):List (List SV):=Nat.rec (motive:=λ_=>List (List SV)) l (λ_ r=>[.undef]::r) n
abbrev nS(n:Nat)(l:List (ae fc)):List (ae fc):=Nat.rec (motive:=λ_=>List (ae fc)) l (λ_ r=>none::r) n
abbrev gt:n4:=[]
def Tb0:bu:=bu.none
theorem o0:dt aj gt Tb0:= .none (by kernel_rfl)
def En:nV (Bool×eS):=λ_ r K=>K [tB r.1] (some ⟨nD,r.2,[]⟩)
def nY:nV qT:=λ_ r K=>K [tS r.1,tB r.2] none
def zL:nV Kq:=λ_ r K=>K [tS r.1,tI r.2.1,tI r.2.2] none
def vp:nV M9:=λ_ r K=>K [tS r.1,tI r.2] none
def Eo:nV yQ:=λ_ r K=>K [tI r.1] (some ⟨oZ,r.2,[[2]]⟩)
def vq:nV (Int×Bool):=λ_ r K=>K [tI r.1,tB r.2] none
def Ep:nV Zt3:=λ_ r K=>K [tI r.1,tS r.2] none
def m4:nV qw:=λ_ r K=>K [tI r.1,tI r.2.1,tI r.2.2] none
def pX:nV dV:=λ_ r K=>K [.b8 lQ r []] none
def vr:nV (Int×Int):=λ_ r K=>K [tI r.1,tI r.2] none
def Er:nV dZ:=λ_ r K=>K [.b8 nL r []] none
def Es:nV (Sum qS qS):=λ_ r K=>(aA (λ(wr:qS)=>K [.b8 uu wr.1 [[]],tI wr.2.1,tI wr.2.2] none) (λ(wr:qS)=>K [.b8 uu wr.1 [],tI wr.2.1,tI wr.2.2] none) r)
def ew:nV Bool:=λ_ r K=>K [tB r] none
def sS:nV af:=λ_ r K=>K [tS r] none
def gk:nV Int:=λ_ r K=>K [tI r] none
variable (R:Type) (kk k:Nat) (K:KF R) (J:KX R)
def Iq:Env:=e0 []
def UM:bu:=Tb0.add 57 [] (KJ Ht (λ_ r K=>K [.b8 Vp r [[]]] none))
theorem o1:dt aj gt UM:=OD Iq (λR kk K=>zuu (λa0=>K [.b8 Vp a0 [[]]] none)) o0 ei Tryz.func57 (λR kk e K=>by simp only[Ht,zuu,cP])
def Zf:Env:=jo.env (kp [(4,[0,2,3,4,5])]) (kp [(4,[2,3])]) [2] [y1]
def Wm(a:Int)(b:HC)(c:Int)(d e:bm):ae R:=lq Zf UM kk Tryz.f29 244 k J ⟨iA a::uS 1 (pA 3 cZ::pA 4 cZ::dB Vp b::iA c::uS 52 []),nS 3 ((some ⟨cZ,d,[[2]]⟩)::(some ⟨cZ,e,[[2]]⟩)::nS 54 [])⟩
def zds(a b:bm):State:=⟨uS 2 (pA 3 cZ::pA 4 cZ::uS 54 []),nS 3 ((some ⟨cZ,a,[[2]]⟩)::(some ⟨cZ,b,[[2]]⟩)::nS 54 [])⟩
def Re:KX R:=(zl 0 (sk Zf UM kk Tryz.f29 31 (fk Zf Tryz.f29 none K)))
theorem ak9 a b c d e:Wm R kk (k+1) J a b c d e=
 zus a b c d e (Wm R kk k J) (λa0 a1=>J (.exit 0) (zds a0 a1)):=by kernel_rfl
theorem aew a b:Re R kk K (.exit 0) (zds a b)=
 zut a b (λa0=>K [.b8 cZ a0 [[2]]] none):=by kernel_rfl
theorem ah1{kk:Nat}(hF:kk=bE) a b c d f:Wm R kk k J a b c d f=(Wn k a b c d f).bind λe=>J (.exit 0) (zds e.1 e.2):=by
 induction k generalizing a b c d f with
 |zero=>rfl
 |succ k ih=>rw[ak9];simp only[Wn,zus,ih,cP]
def Tb2:bu:=UM.add 29 [y1] (kY y1 AH (λ_ r K=>K [.b8 cZ r [[2]]] none))
theorem o2:dt aj gt Tb2:=lv Zf (λR kk x0 K=>zur x0 (Wm R kk kk (Re R kk K))) o1 ei Tryz.func29 (λR kk e x0 K=>by simp only[AH,zur,zut,ah1 (hF:=e),aew,cP,<-e])
def n9:Env:=e0 [y1]
def Tb3:bu:=Tb2.add 193 [y1] (kY y1 Fb gk)
theorem o3:dt aj gt Tb3:=lv n9 (λR kk x0 K=>ZF x0 (λa0=>K [tI a0] none)) o2 ei Tryz.func193 (λR kk e x0 K=>by simp only[gk,Fb,ZF,cP])
def Tb4:bu:=Tb3.add 159 [y1] (kY y1 Hw ew)
theorem o4:dt aj gt Tb4:=lv n9 (λR kk x0 K=>Zy x0 (λa0=>K [tB a0] none)) o3 ei Tryz.func159 (λR kk e x0 K=>by simp only[ew,Hw,Zy,cP])
def UN:bu:=Tb4.add 158 [y1] (kY y1 rJ gk)
theorem o5:dt aj gt UN:=lv n9 (λR kk x0 K=>TH x0 (λa0=>K [tI a0] none)) o4 ei Tryz.func158 (λR kk e x0 K=>by simp only[gk,rJ,TH,cP])
def ZE:Env:=jo.env (kp [(3,[3,5,6])]) (kp [(3,[3])]) [] [y1]
def Xz(a b c:Int):ae R:=lq ZE UN kk Tryz.f160 116 k J ⟨uS 3 (iA a::uS 1 (iA b::iA c::uS 6 [])),nS 14 []⟩
def zez(a:Int):State:=⟨uS 3 (iA a::uS 9 []),nS 14 []⟩
def Ru:KX R:=(zl 0 (sk ZE UN kk Tryz.f160 15 (fk ZE Tryz.f160 none K)))
theorem alB a b c:Xz R kk (k+1) J a b c=
 zx2 a b c (Xz R kk k J) (λa0=>J (.exit 0) (zez a0)):=by kernel_rfl
theorem afi a:Ru R kk K (.exit 0) (zez a)=
 zx3 a (λa0=>K [tI a0] none):=by kernel_rfl
theorem aiD{kk:Nat}(hF:kk=bE) a b c:Xz R kk k J a b c=(XA k a b c).bind λe=>J (.exit 0) (zez e):=by
 induction k generalizing a b c with
 |zero=>rfl
 |succ k ih=>rw[alB];simp only[XA,zx2,ih,cP]
def Tb6:bu:=UN.add 160 [y1] (kY y1 yH gk)
theorem o6:dt aj gt Tb6:=lv ZE (λR kk x0 K=>zx1 x0 (Xz R kk kk (Ru R kk K))) o5 ei Tryz.func160 (λR kk e x0 K=>by simp only[gk,yH,zx1,zx3,aiD (hF:=e),afi,cP,<-e])
def IC:Env:=e0 [kP]
def UO:bu:=Tb6.add 112 [kP] (kY kP tQ gk)
theorem o7:dt aj gt UO:=lv IC (λR kk x0 K=>Yh x0 (λa0=>K [tI a0] none)) o6 ei Tryz.func112 (λR kk e x0 K=>by simp only[gk,tQ,Yh,cP])
def ZO:Env:=jo.env (kp [(6,[1,26,27,28])]) (kp [(6,[2,3])]) [] [cZ]
def X4(a:rN)(b c:Int)(d:bm):ae R:=lq ZO UO kk Tryz.f67 116 k J ⟨uS 1 (pA 2 cZ::uS 24 (dA Vq a::iA b::iA c::uS 26 [])),nS 2 (oA cZ d::nS 53 [])⟩
def zff(a b:Int):State:=⟨uS 2 (iA a::iA b::uS 51 []),nS 56 []⟩
def zfg:State:=⟨uS 55 [],nS 56 []⟩
def zxn:KX R:=(zl 1 (sk ZO UO kk Tryz.f67 15 (fk ZO Tryz.f67 none K)))
theorem alM a b c d:X4 R kk (k+1) J a b c d=
 TN a b c d (λa0 a1=>J .ret (zff a0 a1)) (X4 R kk k J) (J (.exit 1) (zfg)):=by kernel_rfl
theorem afx a b:zxn R kk K .ret (zff a b)=
 X5 a b (λa0 a1=>K [tI a0,tI a1] none):=by kernel_rfl
theorem afy:zxn R kk K (.exit 1) (zfg)=
 X6 (λa0 a1=>K [tI a0,tI a1] none):=by kernel_rfl
theorem aiP{kk:Nat}(hF:kk=bE) a b c d:X4 R kk k J a b c d=(Hd k a b c d).bind λe=>(aA (λ(we:(Int×Int))=>J .ret (zff we.1 we.2)) (λ(we:Unit)=>J (.exit 1) (zfg)) e):=by
 induction k generalizing a b c d with
 |zero=>rfl
 |succ k ih=>rw[alM];simp only[Hd,TN,ih,cP]
def UP:bu:=UO.add 67 [cZ] (kY cZ uK vr)
theorem o8:dt aj gt UP:=lv ZO (λR kk x0 K=>Lb x0 (λa0 a1=>K [tI a0,tI a1] none) (λa0 a1 a2 a3=>X4 R kk kk (zxn R kk K) a0 a1 a2 a3)) o7 ei Tryz.func67 (λR kk e x0 K=>by simp only[vr,uK,aco,X5,X6,aiP (hF:=e),afx,afy,cP,<-e])
def xe:Env:=jo.env (kp [(2,[6])]) (kp [(2,[2])]) [] [.str]
def ZY(a:yP):ae R:=lq xe UP kk Tryz.f154 52 k J ⟨uS 6 (pA 7 Vn::uS 9 []),nS 7 (oA Vn a::nS 9 [])⟩
def zoe(a:Bool):State:=⟨uS 2 (bA a::uS 13 []),nS 17 []⟩
def zof:State:=⟨uS 16 [],nS 17 []⟩
def z138:KX R:=(zl 0 (sk xe UP kk Tryz.f154 7 (fk xe Tryz.f154 none K)))
theorem anF a:ZY R kk (k+1) J a=
 Z0 a (λa0=>J .ret (zoe a0)) (ZY R kk k J) (J (.exit 0) (zof)):=by kernel_rfl
theorem ai6 a:z138 R kk K .ret (zoe a)=
 z139 a (λa0=>K [tB a0] none):=by kernel_rfl
theorem ai7:z138 R kk K (.exit 0) (zof)=
 ID (λa0=>K [tB a0] none):=by kernel_rfl
theorem al3{kk:Nat}(hF:kk=bE) a:ZY R kk k J a=(Lo k a).bind λe=>(aA (λ(we:Bool)=>J .ret (zoe we)) (λ(we:Unit)=>J (.exit 0) (zof)) e):=by
 induction k generalizing a with
 |zero=>rfl
 |succ k ih=>rw[anF];simp only[Lo,Z0,ih,cP]
def Tb9:bu:=UP.add 154 [.str] (kY .str Fe ew)
theorem o9:dt aj gt Tb9:=lv xe (λR kk x0 K=>ZZ x0 (ZY R kk kk (z138 R kk K))) o8 ei Tryz.func154 (λR kk e x0 K=>by simp only[ew,Fe,ZZ,z139,ID,al3 (hF:=e),ai6,ai7,cP,<-e])
def J8:Env:=e0 [.str]
def Md:bu:=Tb9.add 102 [.str] (kY .str wq ew)
theorem o10:dt aj gt Md:=lv J8 (λR kk x0 K=>Xw x0 (λa0=>K [tB a0] none)) o9 ei Tryz.func102 (λR kk e x0 K=>by simp only[ew,wq,Xw,cP])
def Dr:bu:=Md.add 99 [.str] (kY .str qQ vq)
theorem o11:dt aj gt Dr:=lv J8 (λR kk x0 K=>Xx x0 (λa0 a1=>K [tI a0,tB a1] none)) o10 ei Tryz.func99 (λR kk e x0 K=>by simp only[vq,qQ,Xx,cP])
def ZP:Env:=jo.env (kp [(2,[1,4,9,10,11])]) (kp [(2,[4,5])]) [4] [cZ,y1]
def X7(a:Int)(b:rN)(c d:Int)(e:dU):ae R:=lq ZP Dr kk Tryz.f64 52 k J ⟨uS 1 (iA a::uS 2 (pA 5 kP::uS 4 (dA Vq b::iA c::iA d::uS 10 []))),nS 5 (oA kP e::nS 17 [])⟩
def zfh(a:Bool)(b:dU):State:=⟨uS 4 (pA 5 kP::bA a::uS 16 []),nS 5 (oA kP b::nS 17 [])⟩
def zfi(a:dU):State:=⟨uS 4 (pA 5 kP::uS 17 []),nS 5 (oA kP a::nS 17 [])⟩
def zxo:KX R:=(zl 0 (sk ZP Dr kk Tryz.f64 7 (fk ZP Tryz.f64 none K)))
theorem alN a b c d e:X7 R kk (k+1) J a b c d e=
 zxp a b c d e (λa0 a1=>J .ret (zfh a0 a1)) (X7 R kk k J) (λa0=>J (.exit 0) (zfi a0)):=by kernel_rfl
theorem afz a b:zxo R kk K .ret (zfh a b)=
 zxq a b (λa0 a1=>K [.b8 kP a0 [],tB a1] none):=by kernel_rfl
theorem afA a:zxo R kk K (.exit 0) (zfi a)=
 zxr a (λa0 a1=>K [.b8 kP a0 [],tB a1] none):=by kernel_rfl
theorem aiQ{kk:Nat}(hF:kk=bE) a b c d f:X7 R kk k J a b c d f=(TO k a b c d f).bind λe=>(aA (λ(we:(Bool×dU))=>J .ret (zfh we.1 we.2)) (λ(we:dU)=>J (.exit 0) (zfi we)) e):=by
 induction k generalizing a b c d f with
 |zero=>rfl
 |succ k ih=>rw[alN];simp only[TO,zxp,ih,cP]
def Me:bu:=Dr.add 64 [cZ,y1] (mr cZ y1 oc (λ_ r K=>K [.b8 kP r.1 [],tB r.2] none))
theorem o12:dt aj gt Me:=mE ZP (λR kk x0 x1 K=>X8 x0 x1 (X7 R kk kk (zxo R kk K))) o11 ei Tryz.func64 (λR kk e x0 x1 K=>by simp only[oc,X8,zxq,zxr,aiQ (hF:=e),afz,afA,cP,<-e])
def xa:Env:=e0 [y0]
def Ds:bu:=Me.add 194 [y0] (kY y0 Hx gk)
theorem o13:dt aj gt Ds:=lv xa (λR kk x0 K=>Iv x0 (λa0=>K [tI a0] none)) o12 ei Tryz.func194 (λR kk e x0 K=>by simp only[gk,Hx,Iv,cP])
def wZ:Env:=jo.env (kp [(3,[1,5,6])]) (kp [(3,[4])]) [] [y1,.str]
def Zu(a:af)(b c:Int):ae R:=lq wZ Ds kk Tryz.f151 116 k J ⟨uS 1 (sA a::uS 3 (iA b::iA c::uS 16 [])),nS 24 []⟩
def zo8(a:Int):State:=⟨uS 4 (iA a::uS 18 []),nS 24 []⟩
def zo9:State:=⟨uS 23 [],nS 24 []⟩
def Ir:KX R:=(zl 0 (sk wZ Ds kk Tryz.f151 15 (fk wZ Tryz.f151 none K)))
theorem ani a b c:Zu R kk (k+1) J a b c=
 Ud a b c (λa0=>J .ret (zo8 a0)) (Zu R kk k J) (J (.exit 0) (zo9)):=by kernel_rfl
theorem aiv a:Ir R kk K .ret (zo8 a)=
 Is a (λa0=>K [tI a0] none):=by kernel_rfl
theorem aiw:Ir R kk K (.exit 0) (zo9)=
 Iu (λa0=>K [tI a0] none):=by kernel_rfl
theorem alu{kk:Nat}(hF:kk=bE) a b c:Zu R kk k J a b c=(J7 k a b c).bind λe=>(aA (λ(we:Int)=>J .ret (zo8 we)) (λ(we:Unit)=>J (.exit 0) (zo9)) e):=by
 induction k generalizing a b c with
 |zero=>rfl
 |succ k ih=>rw[ani];simp only[J7,Ud,ih,cP]
def Mf:bu:=Ds.add 151 [y1,.str] (mr y1 .str LK gk)
theorem o14:dt aj gt Mf:=mE wZ (λR kk x0 x1 K=>Zv x0 x1 (Zu R kk kk (Ir R kk K))) o13 ei Tryz.func151 (λR kk e x0 x1 K=>by simp only[gk,LK,Zv,Is,Iu,alu (hF:=e),aiv,aiw,cP,<-e])
def Mg:bu:=Mf.add 224 [y1] (kY y1 wA ew)
theorem o15:dt aj gt Mg:=lv n9 (λR kk x0 K=>zy7 x0 (λa0=>K [tB a0] none)) o14 ei Tryz.func224 (λR kk e x0 K=>by simp only[ew,wA,zy7,cP])
def Mh:bu:=Mg.add 225 [y1] (kY y1 Bj ew)
theorem o16:dt aj gt Mh:=lv n9 (λR kk x0 K=>Yy x0 (λa0=>K [tB a0] none)) o15 ei Tryz.func225 (λR kk e x0 K=>by simp only[ew,Bj,Yy,cP])
def Ug:Env:=e0 [.str,y1]
def Mi:bu:=Mh.add 195 [.str,y1] (mr .str y1 Bi m4)
theorem o17:dt aj gt Mi:=mE Ug (λR kk x0 x1 K=>Yx x0 x1 (λa0 a1 a2=>K [tI a0,tI a1,tI a2] none)) o16 ei Tryz.func195 (λR kk e x0 x1 K=>by simp only[m4,Bi,Yx,cP])
def Dt:bu:=Mi.add 226 [y1] (kY y1 Q4 gk)
theorem o18:dt aj gt Dt:=lv n9 (λR kk x0 K=>xm x0 (λa0=>K [tI a0] none)) o17 ei Tryz.func226 (λR kk e x0 K=>by simp only[gk,Q4,xm,cP])
def Dm:Env:=jo.env (kp [(14,[0,1,7,8,44,45])]) (kp [(14,[1,7,8])]) [] [.str,y1]
def xj(a:af)(b c d e f:Int):ae R:=lq Dm Dt kk Tryz.f196 4084 k J ⟨sA a::iA b::uS 5 (iA c::iA d::uS 35 (iA e::iA f::uS 21 [])),nS 68 []⟩
def zyz(a b c:Int):State:=⟨uS 1 (iA a::uS 5 (iA b::iA c::uS 58 [])),nS 68 []⟩
def Fj:KX R:=(zl 0 (sk Dm Dt kk Tryz.f196 511 (fk Dm Tryz.f196 none K)))
theorem LX a b c d e f:xj R kk (k+1) J a b c d e f=
 s8 a b c d e f (xj R kk k J) (λa0 a1 a2=>J (.exit 0) (zyz a0 a1 a2)):=by kernel_rfl
theorem al7 a b c:Fj R kk K (.exit 0) (zyz a b c)=
 s9 a b c (λa0 a1 a2=>K [tI a0,tI a1,tI a2] none):=by kernel_rfl
theorem anJ{kk:Nat}(hF:kk=bE) a b c d f g:xj R kk k J a b c d f g=(nr k a b c d f g).bind λe=>J (.exit 0) (zyz e.1 e.2.1 e.2.2):=by
 induction k generalizing a b c d f g with
 |zero=>rfl
 |succ k ih=>rw[LX];simp only[nr,s8,ih,cP]
def Du:bu:=Dt.add 196 [.str,y1] (mr .str y1 Q3 m4)
theorem o19:dt aj gt Du:=mE Dm (λR kk x0 x1 K=>s7 x0 x1 (λa0 a1 a2=>K [tI a0,tI a1,tI a2] none) (λa0 a1 a2 a3 a4 a5=>xj R kk kk (Fj R kk K) a0 a1 a2 a3 a4 a5)) o18 ei Tryz.func196 (λR kk e x0 x1 K=>by simp only[m4,Q3,adv,s9,anJ (hF:=e),al7,cP,<-e])
def ZU:Env:=jo.env (kp [(4,[0,5,6,7,13])]) (kp [(4,[2,3,4,5])]) [] [.str]
def Yz(a:af)(b:cQ)(c:Int)(d:Na):ae R:=lq ZU Du kk Tryz.f152 244 k J ⟨sA a::uS 4 (dB uu b::pA 14 (.dC .mp y1 .bool)::iA c::uS 5 (pA 14 (.dC .mp y1 .bool)::uS 58 [])),nS 14 (oA (.dC .mp y1 .bool) d::nS 58 [])⟩
def zfu(a:cQ)(b c:Int)(d:cQ):State:=⟨uS 2 (dB uu a::iA b::iA c::dB uu d::uS 66 []),nS 73 []⟩
def zfv(a:cQ):State:=⟨uS 5 (dB uu a::uS 66 []),nS 73 []⟩
def zy8:KX R:=(zl 0 (sk ZU Du kk Tryz.f152 31 (fk ZU Tryz.f152 none K)))
theorem alU a b c d:Yz R kk (k+1) J a b c d=
 YB a b c d (λa0 a1 a2 a3=>J .ret (zfu a0 a1 a2 a3)) (Yz R kk k J) (λa0=>J (.exit 0) (zfv a0)):=by kernel_rfl
theorem afL a b c d:zy8 R kk K .ret (zfu a b c d)=
 zy9 a b c d (λa0 a1 a2=>K [.b8 uu a0 [[]],tI a1,tI a2] none):=by kernel_rfl
theorem afM a:zy8 R kk K (.exit 0) (zfv a)=
 zya a (λa0 a1 a2=>K [.b8 uu a0 [],tI a1,tI a2] none):=by kernel_rfl
theorem aiX{kk:Nat}(hF:kk=bE) a b c d:Yz R kk k J a b c d=(Le k a b c d).bind λe=>(aA (λ(we:yR)=>J .ret (zfu we.1 we.2.1 we.2.2.1 we.2.2.2)) (λ(we:cQ)=>J (.exit 0) (zfv we)) e):=by
 induction k generalizing a b c d with
 |zero=>rfl
 |succ k ih=>rw[alU];simp only[Le,YB,ih,cP]
def Mj:bu:=Du.add 152 [.str] (kY .str Bk Es)
theorem o20:dt aj gt Mj:=lv ZU (λR kk x0 K=>YA x0 (Yz R kk kk (zy8 R kk K))) o19 ei Tryz.func152 (λR kk e x0 K=>by simp only[Es,Bk,YA,zy9,zya,aiX (hF:=e),afL,afM,cP,<-e]) (ho:=λ_ _ _ _ _ _ h=>Zc (λ_=>h _ _) (λ_=>h _ _))
def Se:Env:=e0 [kP,.str]
def Dv:bu:=Mj.add 100 [kP,.str] (mr kP .str gP gk)
theorem o21:dt aj gt Dv:=mE Se (λR kk x0 x1 K=>Yi x0 x1 (λa0=>K [tI a0] none)) o20 ei Tryz.func100 (λR kk e x0 x1 K=>by simp only[gk,gP,Yi,cP])
def ZA:Env:=jo.env (kp [(9,[2,4,9,39,40,41])]) (kp [(9,[4])]) [4] [cZ,gO]
def Xk(a:Int)(b:cQ)(c d:Int)(e:bm)(f:dV):ae R:=lq ZA Dv kk Tryz.f58 500 k J ⟨uS 2 (pA 3 cZ::uS 1 (pA 5 mc::uS 4 (iA a::uS 29 (dA At b::iA c::iA d::uS 36 [])))),nS 3 (oA cZ e::nS 1 (oA mc f::nS 73 []))⟩
def zet(a:dV):State:=⟨uS 4 (pA 5 mc::uS 73 []),nS 5 (oA mc a::nS 73 [])⟩
def zeu(a:dV):State:=⟨uS 4 (pA 5 mc::uS 73 []),nS 5 (oA mc a::nS 73 [])⟩
def zwo:KX R:=(zl 0 (sk ZA Dv kk Tryz.f58 63 (fk ZA Tryz.f58 none K)))
theorem alx a b c d e f:Xk R kk (k+1) J a b c d e f=
 zwp a b c d e f (λa0=>J .ret (zet a0)) (Xk R kk k J) (λa0=>J (.exit 0) (zeu a0)):=by kernel_rfl
theorem afc a:zwo R kk K .ret (zet a)=
 zwq a (λa0=>K [.b8 mc a0 []] none):=by kernel_rfl
theorem afd a:zwo R kk K (.exit 0) (zeu a)=
 zwr a (λa0=>K [.b8 mc a0 []] none):=by kernel_rfl
theorem aiz{kk:Nat}(hF:kk=bE) a b c d f g:Xk R kk k J a b c d f g=(TC k a b c d f g).bind λe=>(aA (λ(we:dV)=>J .ret (zet we)) (λ(we:dV)=>J (.exit 0) (zeu we)) e):=by
 induction k generalizing a b c d f g with
 |zero=>rfl
 |succ k ih=>rw[alx];simp only[TC,zwp,ih,cP]
def Dw:bu:=Dv.add 58 [cZ,gO] (mr cZ gO yG (λ_ r K=>K [.b8 mc r []] none))
theorem o22:dt aj gt Dw:=mE ZA (λR kk x0 x1 K=>Xl x0 x1 (λa0=>K [.b8 mc a0 []] none) (Xk R kk kk (zwo R kk K))) o21 ei Tryz.func58 (λR kk e x0 x1 K=>by simp only[yG,Xl,zwq,zwr,aiz (hF:=e),afc,afd,cP,<-e])
def Dg:Env:=jo.env (kp [(7,[0,4,5])]) (kp [(7,[4])]) [] [.str]
def xb(a:af)(b:(List Int))(c:Int):ae R:=lq Dg Dw kk Tryz.f103 500 k J ⟨sA a::uS 3 (dB y6 b::iA c::uS 40 []),nS 47 []⟩
def zx4(a:(List Int)):State:=⟨uS 4 (dB y6 a::uS 41 []),nS 47 []⟩
def Fc:KX R:=(zl 0 (sk Dg Dw kk Tryz.f103 63 (fk Dg Tryz.f103 none K)))
theorem LM a b c:xb R kk (k+1) J a b c=
 uI a b c (xb R kk k J) (λa0=>J (.exit 0) (zx4 a0)):=by kernel_rfl
theorem alC a:Fc R kk K (.exit 0) (zx4 a)=
 A6 a (λa0 a1=>K [tS a0,tB a1] none):=by kernel_rfl
theorem anm{kk:Nat}(hF:kk=bE) a b c:xb R kk k J a b c=(rI k a b c).bind λe=>J (.exit 0) (zx4 e):=by
 induction k generalizing a b c with
 |zero=>rfl
 |succ k ih=>rw[LM];simp only[rI,uI,ih,cP]
def Mk:bu:=Dw.add 103 [.str] (kY .str Q1 nY)
theorem o23:dt aj gt Mk:=lv Dg (λR kk x0 K=>s6 x0 (λa0 a1=>K [tS a0,tB a1] none) (λa0 a1 a2=>xb R kk kk (Fc R kk K) a0 a1 a2)) o22 ei Tryz.func103 (λR kk e x0 K=>by simp only[nY,Q1,adu,A6,anm (hF:=e),alC,cP,<-e])
def anD:Env:=e0 [y1,.str]
def Ml:bu:=Mk.add 61 [y1,.str] (mr y1 .str Bl nY)
theorem o24:dt aj gt Ml:=mE anD (λR kk x0 x1 K=>YF x0 x1 (λa0 a1=>K [tS a0,tB a1] none)) o23 ei Tryz.func61 (λR kk e x0 x1 K=>by simp only[nY,Bl,YF,cP])
def Tryz.qE:lZ:=⟨λ|166=>60|240=>101|276=>153|n=>n,λ|70=>129|9=>9|3=>3|75=>133|0=>0|72=>131|37=>92|4=>4|164=>240|80=>143|5=>5|20=>20|n=>n,λn=>n⟩
theorem Tryz.Ek:Go.Proofs.Lays.n166 eB Tryz.qE:={
 mixed:=by kernel_rfl,
 f166:=Go.Proofs.Tryz.func60.trans (congrArg some (by kernel_rfl)),
 f240:=Go.Proofs.Tryz.func101.trans (congrArg some (by kernel_rfl)),
 f276:=Go.Proofs.Tryz.func153.trans (congrArg some (by kernel_rfl)),
 t0:=fN,
 a0:=ii,
 z0:=gX,
 v0:=gb,
 t3:=fO,
 a3:=ij,
 z3:=gY,
 v3:=gd,
 t4:=ji,
 a4:=kB,
 z4:=kc,
 v4:=jq,
 t9:=fQ,
 a9:=im,
 z9:=hD,
 v9:=gh,
 t20:=iS,
 a20:=kb,
 z20:=jW,
 v20:=jj,
 t37:=fC,
 a37:=gW,
 z37:=gI,
 v37:=fR,
 t70:=fp,
 a70:=gG,
 z70:=gx,
 v70:=fD,
 t72:=fq,
 a72:=gH,
 z72:=gy,
 v72:=fE,
 t75:=iC,
 a75:=jT,
 z75:=jA,
 v75:=iT,
 t164:=iE,
 a164:=jV,
 z164:=jC,
 v164:=iV}
theorem Tryz.BC:gF eB Tryz.qE:={
 sizeBuilder:=by kernel_rfl,
 liesBuilder:=by kernel_rfl,
 t5:=fP,
 a5:=il,
 z5:=gZ,
 v5:=gf,
 infoByte:=by kernel_rfl,
 cellsByte:=by kernel_rfl,
 sizeByte:=by kernel_rfl,
 neB5:=by decide}
noncomputable abbrev z6d:Code:=Tryz.f60.body.getD .skip
theorem z5r:Ah aj 60:=⟨Tryz.f60,z6d,Tryz.func60,by kernel_rfl,by kernel_rfl⟩
def Mm:bu:=Ml.add 60 [] (Uy 131 5)
theorem o25:dt aj gt Mm:=⟨o24.mix,YW o24.nat (an2 _ _),age o24.Cf z5r Tryz.Ek Tryz.BC rfl rfl rfl⟩
def anC:Env:=e0 [.str,.unit]
def Mn:bu:=Mm.add 59 [.str,.unit] (pz .str EL EL [[]] rK (λ_ r K=>K [] (some ⟨EL,r,[[]]⟩)))
theorem o26:dt aj gt Mn:=sz anC (λR kk x0 x1 K=>YE x0 x1 (λa0=>K [] (some ⟨EL,a0,[[]]⟩))) o25 ei Tryz.func59 (λR kk e x0 x1 K=>by simp only[rK,YE,cP])
def LW:Env:=jo.env (λ_=>[]) (λ_=>[]) [2] [y1]
def Mo:bu:=Mn.add 155 [y1] (kY y1 Km pX)
theorem o27:dt aj gt Mo:=lv LW (λR kk x0 K=>zry x0 (λa0=>K [.b8 lQ a0 []] none)) o26 ei Tryz.func155 (λR kk e x0 K=>by simp only[pX,Km,zry,cP])
def Fg:Env:=jo.env (λ_=>[]) (λ_=>[]) [4] [lQ,lQ]
def Mp:bu:=Mo.add 144 [lQ,lQ] (mr lQ lQ Bn pX)
theorem o28:dt aj gt Mp:=mE Fg (λR kk x0 x1 K=>zru x0 x1 (λa0=>K [.b8 lQ a0 []] none)) o27 ei Tryz.func144 (λR kk e x0 x1 K=>by simp only[pX,Bn,zru,cP])
def LV:Env:=jo.env (λ_=>[]) (λ_=>[]) [4] [lQ,y1]
def Dx:bu:=Mp.add 108 [lQ,y1] (mr lQ y1 Fi pX)
theorem o29:dt aj gt Dx:=mE LV (λR kk x0 x1 K=>zrx x0 x1 (λa0=>K [.b8 lQ a0 []] none)) o28 ei Tryz.func108 (λR kk e x0 x1 K=>by simp only[pX,Fi,zrx,cP])
def ZC:Env:=jo.env (kp [(3,[2,3,7,8,9])]) (kp [(3,[2,3])]) [2] [gO]
def Xo(a:cQ)(b c:Int)(d e:dV):ae R:=lq ZC Dx kk Tryz.f63 116 k J ⟨uS 2 (pA 3 lQ::pA 4 lQ::uS 3 (dA At a::iA b::iA c::uS 9 [])),nS 3 (oA lQ d::oA lQ e::nS 15 [])⟩
def zex(a b:dV):State:=⟨uS 2 (pA 3 lQ::pA 4 lQ::uS 15 []),nS 3 (oA lQ a::oA lQ b::nS 15 [])⟩
def Rs:KX R:=(zl 0 (sk ZC Dx kk Tryz.f63 15 (fk ZC Tryz.f63 none K)))
theorem alz a b c d e:Xo R kk (k+1) J a b c d e=
 zww a b c d e (Xo R kk k J) (λa0 a1=>J (.exit 0) (zex a0 a1)):=by kernel_rfl
theorem afg a b:Rs R kk K (.exit 0) (zex a b)=
 zwx a b (λa0=>K [.b8 lQ a0 []] none):=by kernel_rfl
theorem aiB{kk:Nat}(hF:kk=bE) a b c d f:Xo R kk k J a b c d f=(TE k a b c d f).bind λe=>J (.exit 0) (zex e.1 e.2):=by
 induction k generalizing a b c d f with
 |zero=>rfl
 |succ k ih=>rw[alz];simp only[TE,zww,ih,cP]
def Mq:bu:=Dx.add 63 [gO] (kY gO AZ pX)
theorem o30:dt aj gt Mq:=lv ZC (λR kk x0 K=>Xp x0 (Xo R kk kk (Rs R kk K))) o29 ei Tryz.func63 (λR kk e x0 K=>by simp only[pX,AZ,Xp,zwx,aiB (hF:=e),afg,cP,<-e])
def Mr:bu:=Mq.add 104 [y1] (kY y1 Q9 ew)
theorem o31:dt aj gt Mr:=lv n9 (λR kk x0 K=>uP x0 (λa0=>K [tB a0] none)) o30 ei Tryz.func104 (λR kk e x0 K=>by simp only[ew,Q9,uP,cP])
def Ms:bu:=Mr.add 143 [lQ,lQ] (mr lQ lQ Ai pX)
theorem o32:dt aj gt Ms:=mE Fg (λR kk x0 x1 K=>Uj x0 x1 (λa0=>K [.b8 lQ a0 []] none)) o31 ei Tryz.func143 (λR kk e x0 x1 K=>by simp only[pX,Ai,Uj,cP])
def Fh:Env:=e0 [lQ,y1]
def Mt:bu:=Ms.add 105 [lQ,y1] (mr lQ y1 LU ew)
theorem o33:dt aj gt Mt:=mE Fh (λR kk x0 x1 K=>zrv x0 x1 (λa0=>K [tB a0] none)) o32 ei Tryz.func105 (λR kk e x0 x1 K=>by simp only[ew,LU,zrv,cP])
def LS:Env:=e0 [lQ]
def Dy:bu:=Mt.add 106 [lQ] (kY lQ UL (λ_ r K=>K [.b8 y2 r.1 [],.b8 y2 r.2 []] none))
theorem o34:dt aj gt Dy:=lv LS (λR kk x0 K=>IG x0 (λa0 a1=>K [.b8 y2 a0 [],.b8 y2 a1 []] none)) o33 ei Tryz.func106 (λR kk e x0 K=>by simp only[UL,IG,cP])
def Dp:Env:=jo.env (kp [(3,[0,2,3,5])]) (kp [(3,[2,3])]) [2] [y2]
def xD(a b:Int)(c d:(List Int)):ae R:=lq Dp Dy kk Tryz.f107 116 k J ⟨dA y2 a::uS 1 (pA 3 y8::pA 4 y8::uS 1 (iA b::uS 12 [])),nS 3 (oA y8 c::oA y8 d::nS 14 [])⟩
def zz1(a b:(List Int)):State:=⟨uS 2 (pA 3 y8::pA 4 y8::uS 14 []),nS 3 (oA y8 a::oA y8 b::nS 14 [])⟩
def Fu:KX R:=(zl 0 (sk Dp Dy kk Tryz.f107 15 (fk Dp Tryz.f107 none K)))
theorem Ma a b c d:xD R kk (k+1) J a b c d=
 uN a b c d (xD R kk k J) (λa0 a1=>J (.exit 0) (zz1 a0 a1)):=by kernel_rfl
theorem amj a b:Fu R kk K (.exit 0) (zz1 a b)=
 xF a b (λa0=>K [.b8 y8 a0 []] none):=by kernel_rfl
theorem anV{kk:Nat}(hF:kk=bE) a b c d:xD R kk k J a b c d=(pK k a b c d).bind λe=>J (.exit 0) (zz1 e.1 e.2):=by
 induction k generalizing a b c d with
 |zero=>rfl
 |succ k ih=>rw[Ma];simp only[pK,uN,ih,cP]
def Dz:bu:=Dy.add 107 [y2] (kY y2 Q8 (λ_ r K=>K [.b8 y8 r []] none))
theorem o35:dt aj gt Dz:=lv Dp (λR kk x0 K=>xE x0 (xD R kk kk (Fu R kk K))) o34 ei Tryz.func107 (λR kk e x0 K=>by simp only[Q8,xE,xF,anV (hF:=e),amj,cP,<-e])
def Zx:Env:=jo.env (kp [(3,[0,3,4])]) (kp [(3,[3])]) [] [.str]
def Xh(a:af)(b:(List Int))(c:Int):ae R:=lq Zx Dz kk Tryz.f95 116 k J ⟨sA a::uS 2 (dB y6 b::iA c::uS 25 []),nS 31 []⟩
def zes(a:(List Int)):State:=⟨uS 3 (dB y6 a::uS 26 []),nS 31 []⟩
def Rr:KX R:=(zl 0 (sk Zx Dz kk Tryz.f95 15 (fk Zx Tryz.f95 none K)))
theorem alw a b c:Xh R kk (k+1) J a b c=
 TB a b c (Xh R kk k J) (λa0=>J (.exit 0) (zes a0)):=by kernel_rfl
theorem afb a:Rr R kk K (.exit 0) (zes a)=
 zwm a (λa0=>K [tS a0] none):=by kernel_rfl
theorem aiy{kk:Nat}(hF:kk=bE) a b c:Xh R kk k J a b c=(JV k a b c).bind λe=>J (.exit 0) (zes e):=by
 induction k generalizing a b c with
 |zero=>rfl
 |succ k ih=>rw[alw];simp only[JV,TB,ih,cP]
def Mu:bu:=Dz.add 95 [.str] (kY .str rH sS)
theorem o36:dt aj gt Mu:=lv Zx (λR kk x0 K=>Xi x0 (Xh R kk kk (Rr R kk K))) o35 ei Tryz.func95 (λR kk e x0 K=>by simp only[sS,rH,Xi,zwm,aiy (hF:=e),afb,cP,<-e])
def aae:Env:=e0 [y1,lQ]
def Mv:bu:=Mu.add 62 [y1,lQ] (mr y1 lQ Q6 vp)
theorem o37:dt aj gt Mv:=mE aae (λR kk x0 x1 K=>xu x0 x1 (λa0 a1=>K [tS a0,tI a1] none)) o36 ei Tryz.func62 (λR kk e x0 x1 K=>by simp only[vp,Q6,xu,cP])
def Mw:bu:=Mv.add 109 [y1] (kY y1 Hv ew)
theorem o38:dt aj gt Mw:=lv n9 (λR kk x0 K=>Uc x0 (λa0=>K [tB a0] none)) o37 ei Tryz.func109 (λR kk e x0 K=>by simp only[ew,Hv,Uc,cP])
def ZG:Env:=e0 [y1,y1]
def DA:bu:=Mw.add 156 [y1,y1] (mr y1 y1 yJ ew)
theorem o39:dt aj gt DA:=mE ZG (λR kk x0 x1 K=>TG x0 x1 (λa0=>K [tB a0] none)) o38 ei Tryz.func156 (λR kk e x0 x1 K=>by simp only[ew,yJ,TG,cP])
def xh:Env:=jo.env (kp [(5,[0,6,7,19])]) (kp [(5,[0,6,19])]) [] [y1,y1]
def Z5(a:Int)(b:Nat)(c:Int)(d:Nat)(e:(List Int)):ae R:=lq xh DA kk Tryz.f157 244 k J ⟨iA a::uS 5 (pA 20 (.dC (.qi b) y0 .unit)::iA c::uS 11 (pA 20 (.dC (.qi d) y0 .unit)::uS 19 [])),nS 20 (oA (.dC .row y0 .unit) e::nS 19 [])⟩
def zoh(a:Int)(b c:Nat)(d:(List Int)):State:=⟨iA a::uS 5 (pA 20 (.dC (.qi b) y0 .unit)::uS 12 (pA 20 (.dC (.qi c) y0 .unit)::uS 19 [])),nS 20 (oA (.dC .row y0 .unit) d::nS 19 [])⟩
def Sh:KX R:=(zl 0 (sk xh DA kk Tryz.f157 31 (fk xh Tryz.f157 none K)))
theorem anH a b c d e:Z5 R kk (k+1) J a b c d e=
 Uh a b c d e (Z5 R kk k J) (λa0 a1 a2 a3=>J (.exit 0) (zoh a0 a1 a2 a3)):=by kernel_rfl
theorem ai9 a b c d:Sh R kk K (.exit 0) (zoh a b c d)=
 Z7 a b c d (λa0 a1=>K [tS a0,tB a1] none):=by kernel_rfl
theorem al5{kk:Nat}(hF:kk=bE) a b c d f:Z5 R kk k J a b c d f=(Kc k a b c d f).bind λe=>J (.exit 0) (zoh e.1 e.2.1 e.2.2.1 e.2.2.2):=by
 induction k generalizing a b c d f with
 |zero=>rfl
 |succ k ih=>rw[anH];simp only[Kc,Uh,ih,cP]
def Mx:bu:=DA.add 157 [y1,y1] (mr y1 y1 LQ nY)
theorem o40:dt aj gt Mx:=mE xh (λR kk x0 x1 K=>Z6 x0 x1 (λa0 a1=>K [tS a0,tB a1] none) (Z5 R kk kk (Sh R kk K))) o39 ei Tryz.func157 (λR kk e x0 x1 K=>by simp only[nY,LQ,Z6,Z7,al5 (hF:=e),ai9,cP,<-e])
def ann:Env:=e0 [y1,y1,y1]
def My:bu:=Mx.add 110 [y1,y1,y1] (sG y1 y1 y1 yI vp)
theorem o41:dt aj gt My:=sX ann (λR kk x0 x1 x2 K=>XB x0 x1 x2 (λa0 a1=>K [tS a0,tI a1] none)) o40 ei Tryz.func110 (λR kk e x0 x1 x2 K=>by simp only[vp,yI,XB,cP])
def Mz:bu:=My.add 111 [y1,y1] (mr y1 y1 s4 gk)
theorem o42:dt aj gt Mz:=mE ZG (λR kk x0 x1 K=>Zp x0 x1 (λa0=>K [tI a0] none)) o41 ei Tryz.func111 (λR kk e x0 x1 K=>by simp only[gk,s4,Zp,cP])
def LJ:Env:=e0 [y1,kP,.str]
def MA:bu:=Mz.add 65 [y1,kP,.str] (sG y1 kP .str Hu vp)
theorem o43:dt aj gt MA:=sX LJ (λR kk x0 x1 x2 K=>Zm x0 x1 x2 (λa0 a1=>K [tS a0,tI a1] none)) o42 ei Tryz.func65 (λR kk e x0 x1 x2 K=>by simp only[vp,Hu,Zm,cP])
def Tryz.qF:lZ:=⟨λ|169=>66|n=>n,λ|70=>129|9=>9|0=>0|72=>131|37=>92|127=>194|3=>3|5=>5|n=>n,λn=>n⟩
theorem Tryz.Em:Go.Proofs.Lays.n169 eB Tryz.qF:={
 mixed:=by kernel_rfl,
 f169:=Go.Proofs.Tryz.func66.trans (congrArg some (by kernel_rfl)),
 t0:=fN,
 a0:=ii,
 z0:=gX,
 v0:=gb,
 t3:=fO,
 a3:=ij,
 z3:=gY,
 v3:=gd,
 t9:=fQ,
 a9:=im,
 z9:=hD,
 v9:=gh,
 t37:=fC,
 a37:=gW,
 z37:=gI,
 v37:=fR,
 t70:=fp,
 a70:=gG,
 z70:=gx,
 v70:=fD,
 t72:=fq,
 a72:=gH,
 z72:=gy,
 v72:=fE,
 t127:=iD,
 a127:=jU,
 z127:=jB,
 v127:=iU}
theorem Tryz.BD:gF eB Tryz.qF:={
 sizeBuilder:=by kernel_rfl,
 liesBuilder:=by kernel_rfl,
 t5:=fP,
 a5:=il,
 z5:=gZ,
 v5:=gf,
 infoByte:=by kernel_rfl,
 cellsByte:=by kernel_rfl,
 sizeByte:=by kernel_rfl,
 neB5:=by decide}
noncomputable abbrev z9m:Code:=Tryz.f66.body.getD .skip
theorem z7o:Ah aj 66:=⟨Tryz.f66,z9m,Tryz.func66,by kernel_rfl,by kernel_rfl⟩
def DB:bu:=MA.add 66 [] (Ux 131 5)
theorem o44:dt aj gt DB:=⟨o43.mix,YW o43.nat (an1 _ _),agd o43.Cf z7o Tryz.Em Tryz.BD rfl rfl rfl⟩
def ZV:Env:={jo.env (kp [(11,[2,5,7,8,50,51,52])]) (kp [(11,[5,7])]) [5] [cZ,gO] with bl:=λt=>bif ak t 131 then some 5 else none}
def YC(a:cQ)(b c:Int)(d:bm)(e:dV)(f:af):ae R:=lq ZV DB kk Tryz.f30 8180 k J ⟨uS 2 (pA 3 cZ::uS 2 (pA 6 mc::uS 1 (pA 8 EL::pA 8 (.dC (.CF 59) EL .unit)::uS 41 (dA At a::iA b::iA c::uS 25 [])))),nS 3 (oA cZ d::nS 2 (oA mc e::nS 1 (oB EL f::nS 70 [])))⟩
def zfw(a:dV)(b:af):State:=⟨uS 5 (pA 6 mc::uS 1 (pA 8 EL::uS 70 [])),nS 6 (oA mc a::nS 1 (oB EL b::nS 70 []))⟩
def Ry:KX R:=(zl 0 (sk ZV DB kk Tryz.f30 1023 (fk ZV Tryz.f30 none K)))
theorem alV a b c d e f:YC R kk (k+1) J a b c d e f=
 zyb a b c d e f (YC R kk k J) (λa0 a1=>J (.exit 0) (zfw a0 a1)):=by kernel_rfl
theorem afN a b:Ry R kk K (.exit 0) (zfw a b)=
 zyc a b (λa0 a1=>K [tS a0,.b8 mc a1 []] none):=by kernel_rfl
theorem aiY{kk:Nat}(hF:kk=bE) a b c d f g:YC R kk k J a b c d f g=(TT k a b c d f g).bind λe=>J (.exit 0) (zfw e.1 e.2):=by
 induction k generalizing a b c d f g with
 |zero=>rfl
 |succ k ih=>rw[alV];simp only[TT,zyb,ih,cP]
def MB:bu:=DB.add 30 [cZ,gO] (mr cZ gO uL (λ_ r K=>K [tS r.1,.b8 mc r.2 []] none))
theorem o45:dt aj gt MB:=mE ZV (λR kk x0 x1 K=>YD x0 x1 (λa0 a1=>K [tS a0,.b8 mc a1 []] none) (YC R kk kk (Ry R kk K))) o44 (ei.qV 131 5 (by kernel_rfl)) Tryz.func30 (λR kk e x0 x1 K=>by simp only[uL,YD,zyc,aiY (hF:=e),afN,cP,<-e])
def DC:bu:=MB.add 113 [y1] (kY y1 Q2 gk)
theorem o46:dt aj gt DC:=lv n9 (λR kk x0 K=>xg x0 (λa0=>K [tI a0] none)) o45 ei Tryz.func113 (λR kk e x0 K=>by simp only[gk,Q2,xg,cP])
def Dc:Env:=jo.env (kp [(7,[0,1,7,30,31])]) (kp [(7,[1,4,5,6,7])]) [] [.str,y1]
def wW(a:af)(b:Int)(c:(List Int))(d e:Int):ae R:=lq Dc DC kk Tryz.f114 244 k J ⟨sA a::iA b::uS 5 (dB y6 c::uS 22 (iA d::iA e::uS 43 [])),nS 76 []⟩
def zuo(a:Int)(b:af)(c d:Int)(e:(List Int)):State:=⟨uS 1 (iA a::uS 2 (sA b::iA c::iA d::dB y6 e::uS 67 [])),nS 76 []⟩
def zup(a:Int)(b:(List Int)):State:=⟨uS 1 (iA a::uS 5 (dB y6 b::uS 67 [])),nS 76 []⟩
def AF:KX R:=(zl 1 (sk Dc DC kk Tryz.f114 31 (fk Dc Tryz.f114 none K)))
theorem LG a b c d e:wW R kk (k+1) J a b c d e=
 uF a b c d e (λa0 a1 a2 a3 a4=>J .ret (zuo a0 a1 a2 a3 a4)) (wW R kk k J) (λa0 a1=>J (.exit 1) (zup a0 a1)):=by kernel_rfl
theorem ak7 a b c d e:AF R kk K .ret (zuo a b c d e)=
 AG a b c d e (λa0 a1 a2=>K [tS a0,tI a1,tI a2] none):=by kernel_rfl
theorem ak8 a b:AF R kk K (.exit 1) (zup a b)=
 wY a b (λa0 a1 a2=>K [tS a0,tI a1,tI a2] none):=by kernel_rfl
theorem anb{kk:Nat}(hF:kk=bE) a b c d f:wW R kk k J a b c d f=(qv k a b c d f).bind λe=>(aA (λ(we:(Int×af×Int×Int×(List Int)))=>J .ret (zuo we.1 we.2.1 we.2.2.1 we.2.2.2.1 we.2.2.2.2)) (λ(we:(Int×(List Int)))=>J (.exit 1) (zup we.1 we.2)) e):=by
 induction k generalizing a b c d f with
 |zero=>rfl
 |succ k ih=>rw[LG];simp only[qv,uF,ih,cP]
def MC:bu:=DC.add 114 [.str,y1] (mr .str y1 Q0 zL)
theorem o47:dt aj gt MC:=mE Dc (λR kk x0 x1 K=>wX x0 x1 (λa0 a1 a2=>K [tS a0,tI a1,tI a2] none) (wW R kk kk (AF R kk K))) o46 ei Tryz.func114 (λR kk e x0 x1 K=>by simp only[zL,Q0,wX,AG,wY,anb (hF:=e),ak7,ak8,cP,<-e])
def anA:Env:=e0 [cZ,.str]
def MD:bu:=MC.add 68 [cZ,.str] (mr cZ .str Bg zL)
theorem o48:dt aj gt MD:=mE anA (λR kk x0 x1 K=>Yn x0 x1 (λa0 a1 a2=>K [tS a0,tI a1,tI a2] none)) o47 ei Tryz.func68 (λR kk e x0 x1 K=>by simp only[zL,Bg,Yn,cP])
def DE:bu:=MD.add 163 [y0] (kY y0 AX vq)
theorem o49:dt aj gt DE:=lv xa (λR kk x0 K=>zwj x0 (λa0 a1=>K [tI a0,tB a1] none)) o48 ei Tryz.func163 (λR kk e x0 K=>by simp only[vq,AX,zwj,cP])
def Zw:Env:=jo.env (kp [(4,[0,5,6,7])]) (kp [(4,[0,2,3,4,5])]) [] [.str]
def Xe(a:af)(b:(List Int))(c d:Int):ae R:=lq Zw DE kk Tryz.f120 244 k J ⟨sA a::uS 4 (dB y6 b::iA c::iA d::uS 44 []),nS 53 []⟩
def zeq(a b:af)(c:Int)(d:Bool)(e:(List Int)):State:=⟨sA a::uS 1 (sA b::iA c::bA d::dB y6 e::uS 46 []),nS 53 []⟩
def zer(a:af)(b:(List Int)):State:=⟨sA a::uS 4 (dB y6 b::uS 46 []),nS 53 []⟩
def zwk:KX R:=(zl 0 (sk Zw DE kk Tryz.f120 31 (fk Zw Tryz.f120 none K)))
theorem alv a b c d:Xe R kk (k+1) J a b c d=
 TA a b c d (λa0 a1 a2 a3 a4=>J .ret (zeq a0 a1 a2 a3 a4)) (Xe R kk k J) (λa0 a1=>J (.exit 0) (zer a0 a1)):=by kernel_rfl
theorem ae9 a b c d e:zwk R kk K .ret (zeq a b c d e)=
 zwl a b c d e (λa0 a1 a2=>K [tS a0,tI a1,tB a2] none):=by kernel_rfl
theorem afa a b:zwk R kk K (.exit 0) (zer a b)=
 Xg a b (λa0 a1 a2=>K [tS a0,tI a1,tB a2] none):=by kernel_rfl
theorem aix{kk:Nat}(hF:kk=bE) a b c d:Xe R kk k J a b c d=(JU k a b c d).bind λe=>(aA (λ(we:(af×af×Int×Bool×(List Int)))=>J .ret (zeq we.1 we.2.1 we.2.2.1 we.2.2.2.1 we.2.2.2.2)) (λ(we:(af×(List Int)))=>J (.exit 0) (zer we.1 we.2)) e):=by
 induction k generalizing a b c d with
 |zero=>rfl
 |succ k ih=>rw[alv];simp only[JU,TA,ih,cP]
def ME:bu:=DE.add 120 [.str] (kY .str pj (λ_ r K=>K [tS r.1,tI r.2.1,tB r.2.2] none))
theorem o50:dt aj gt ME:=lv Zw (λR kk x0 K=>Xf x0 (Xe R kk kk (zwk R kk K))) o49 ei Tryz.func120 (λR kk e x0 K=>by simp only[pj,Xf,zwl,Xg,aix (hF:=e),ae9,afa,cP,<-e])
def Fa:Env:=jo.env (λ_=>[]) (λ_=>[]) [6] [y1,.str,y1]
def DF:bu:=ME.add 115 [y1,.str,y1] (sG y1 .str y1 Kk (λ_ r K=>K [.b8 y8 r.1 [],tI r.2.1,tI r.2.2] none))
theorem o51:dt aj gt DF:=sX Fa (λR kk x0 x1 x2 K=>Zg x0 x1 x2 (λa0 a1 a2=>K [.b8 y8 a0 [],tI a1,tI a2] none)) o50 ei Tryz.func115 (λR kk e x0 x1 x2 K=>by simp only[Kk,Zg,cP])
def Dn:Env:=jo.env (kp [(3,[3,6,7])]) (kp [(3,[3])]) [] [y8]
def xA(a:Int)(b:(List Int))(c:Int):ae R:=lq Dn DF kk Tryz.f116 116 k J ⟨uS 3 (dA y2 a::uS 2 (dA y8 b::iA c::uS 9 [])),nS 18 []⟩
def zz0(a:Int):State:=⟨uS 3 (dA y2 a::uS 13 []),nS 18 []⟩
def Fo:KX R:=(zl 0 (sk Dn DF kk Tryz.f116 15 (fk Dn Tryz.f116 none K)))
theorem L9 a b c:xA R kk (k+1) J a b c=
 uM a b c (xA R kk k J) (λa0=>J (.exit 0) (zz0 a0)):=by kernel_rfl
theorem amh a:Fo R kk K (.exit 0) (zz0 a)=
 Bq a (λa0=>K [.b8 y2 a0 []] none):=by kernel_rfl
theorem anT{kk:Nat}(hF:kk=bE) a b c:xA R kk k J a b c=(rL k a b c).bind λe=>J (.exit 0) (zz0 e):=by
 induction k generalizing a b c with
 |zero=>rfl
 |succ k ih=>rw[L9];simp only[rL,uM,ih,cP]
def MF:bu:=DF.add 116 [y8] (kY y8 Q7 (λ_ r K=>K [.b8 y2 r []] none))
theorem o52:dt aj gt MF:=lv Dn (λR kk x0 K=>xB x0 (xA R kk kk (Fo R kk K))) o51 ei Tryz.func116 (λR kk e x0 K=>by simp only[Q7,xB,Bq,anT (hF:=e),amh,cP,<-e])
def LR:Env:=jo.env (λ_=>[]) (λ_=>[]) [4] [y2,y2]
def MG:bu:=MF.add 117 [y2,y2] (mr y2 y2 UK pX)
theorem o53:dt aj gt MG:=mE LR (λR kk x0 x1 K=>IF x0 x1 (λa0=>K [.b8 lQ a0 []] none)) o52 ei Tryz.func117 (λR kk e x0 x1 K=>by simp only[pX,UK,IF,cP])
def MH:bu:=MG.add 69 [y1,.str,y1] (sG y1 .str y1 Q5 (λ_ r K=>K [.b8 lQ r.1 [],tI r.2.1,tI r.2.2] none))
theorem o54:dt aj gt MH:=sX Fa (λR kk x0 x1 x2 K=>xq x0 x1 x2 (λa0 a1 a2=>K [.b8 lQ a0 [],tI a1,tI a2] none)) o53 ei Tryz.func69 (λR kk e x0 x1 x2 K=>by simp only[Q5,xq,cP])
def Sc:Env:=e0 [y2]
def MI:bu:=MH.add 161 [y2] (kY y2 AY gk)
theorem o55:dt aj gt MI:=lv Sc (λR kk x0 K=>zwn x0 (λa0=>K [tI a0] none)) o54 ei Tryz.func161 (λR kk e x0 K=>by simp only[gk,AY,zwn,cP])
def MJ:bu:=MI.add 118 [y2] (kY y2 uH gk)
theorem o56:dt aj gt MJ:=lv Sc (λR kk x0 K=>Xj x0 (λa0=>K [tI a0] none)) o55 ei Tryz.func118 (λR kk e x0 K=>by simp only[gk,uH,Xj,cP])
def DG:bu:=MJ.add 70 [lQ,y1] (mr lQ y1 Kl gk)
theorem o57:dt aj gt DG:=mE Fh (λR kk x0 x1 K=>zrw x0 x1 (λa0=>K [tI a0] none)) o56 ei Tryz.func70 (λR kk e x0 x1 K=>by simp only[gk,Kl,zrw,cP])
def xf:Env:=jo.env (kp [(5,[4,20])]) (kp [(5,[4])]) [] [.str]
def Z1(a:Int)(b:yP):ae R:=lq xf DG kk Tryz.f162 244 k J ⟨uS 4 (iA a::uS 15 (pA 21 Vn::uS 10 [])),nS 21 (oA Vn b::nS 10 [])⟩
def zog(a:Int):State:=⟨uS 4 (iA a::uS 26 []),nS 32 []⟩
def Sg:KX R:=(zl 0 (sk xf DG kk Tryz.f162 31 (fk xf Tryz.f162 none K)))
theorem anG a b:Z1 R kk (k+1) J a b=
 Z3 a b (Z1 R kk k J) (λa0=>J (.exit 0) (zog a0)):=by kernel_rfl
theorem ai8 a:Sg R kk K (.exit 0) (zog a)=
 IE a (λa0 a1=>K [tI a0,tB a1] none):=by kernel_rfl
theorem al4{kk:Nat}(hF:kk=bE) a b:Z1 R kk k J a b=(Lp k a b).bind λe=>J (.exit 0) (zog e):=by
 induction k generalizing a b with
 |zero=>rfl
 |succ k ih=>rw[anG];simp only[Lp,Z3,ih,cP]
def MK:bu:=DG.add 162 [.str] (kY .str Ff vq)
theorem o58:dt aj gt MK:=lv xf (λR kk x0 K=>Z2 x0 (λa0 a1=>K [tI a0,tB a1] none) (Z1 R kk kk (Sg R kk K))) o57 ei Tryz.func162 (λR kk e x0 K=>by simp only[vq,Ff,Z2,IE,al4 (hF:=e),ai8,cP,<-e])
def anl:Env:=e0 [y1,y1,.str,y1]
def ML:bu:=MK.add 119 [y1,y1,.str,y1] (Vf y1 y1 .str y1 A5 m4)
theorem o59:dt aj gt ML:=st4 anl (λR kk x0 x1 x2 x3 K=>Xy x0 x1 x2 x3 (λa0 a1 a2=>K [tI a0,tI a1,tI a2] none)) o58 ei Tryz.func119 (λR kk e x0 x1 x2 x3 K=>by simp only[m4,A5,Xy,cP])
def LI:Env:=e0 [y1,kP,.str,y1]
def DH:bu:=ML.add 71 [y1,kP,.str,y1] (Vf y1 kP .str y1 LH zL)
theorem o60:dt aj gt DH:=st4 LI (λR kk x0 x1 x2 x3 K=>Zk x0 x1 x2 x3 (λa0 a1 a2=>K [tS a0,tI a1,tI a2] none)) o59 ei Tryz.func71 (λR kk e x0 x1 x2 x3 K=>by simp only[zL,LH,Zk,cP])
def ZT:Env:=jo.env (kp [(13,[1,2,4,5,6,10,12,13])]) (kp [(13,[1,4,5,6,10])]) [4,5] [cZ,.str]
def Yl(a:af)(b c:Int)(d:bm)(e:cu)(f:dV)(g:cu)(h:dV):ae R:=lq ZT DH kk Tryz.f31 8180 k J ⟨uS 1 (sA a::pA 3 cZ::uS 1 (pA 5 gO::pA 6 mc::pA 7 gO::uS 3 (iA b::uS 1 (pA 13 lQ::iA c::uS 93 [])))),nS 3 (oA cZ d::nS 1 ((some ⟨gO,e,[[1]]⟩)::oA mc f::(some ⟨gO,g,[[1]]⟩)::nS 5 (oA lQ h::nS 94 [])))⟩
def zfp(a:af)(b:Int)(c:cu)(d:dV)(e:cu):State:=⟨uS 1 (sA a::uS 2 (pA 5 gO::pA 6 mc::pA 7 gO::uS 3 (iA b::uS 96 []))),nS 5 ((some ⟨gO,c,[[1]]⟩)::oA mc d::oA gO e::nS 100 [])⟩
def zfq(a:af)(b:Int)(c:cu)(d:dV)(e:cu):State:=⟨uS 1 (sA a::uS 2 (pA 5 gO::pA 6 mc::pA 7 gO::uS 3 (iA b::uS 96 []))),nS 5 ((some ⟨gO,c,[[1]]⟩)::oA mc d::(some ⟨gO,e,[[1]]⟩)::nS 100 [])⟩
def zy4:KX R:=(zl 0 (sk ZT DH kk Tryz.f31 1023 (fk ZT Tryz.f31 none K)))
theorem alR a b c d e f g h:Yl R kk (k+1) J a b c d e f g h=
 TS a b c d e f g h (λa0 a1 a2 a3 a4=>J .ret (zfp a0 a1 a2 a3 a4)) (Yl R kk k J) (λa0 a1 a2 a3 a4=>J (.exit 0) (zfq a0 a1 a2 a3 a4)):=by kernel_rfl
theorem afH a b c d e:zy4 R kk K .ret (zfp a b c d e)=
 zy5 a b c d e (λa0 a1=>K [.b8 gO a0 [[1]],.b8 mc a1 []] none):=by kernel_rfl
theorem afI a b c d e:zy4 R kk K (.exit 0) (zfq a b c d e)=
 zy6 a b c d e (λa0 a1=>K [.b8 gO a0 [[1]],.b8 mc a1 []] none):=by kernel_rfl
theorem aiU{kk:Nat}(hF:kk=bE) a b c d f g h i:Yl R kk k J a b c d f g h i=(JZ k a b c d f g h i).bind λe=>(aA (λ(we:yT)=>J .ret (zfp we.1 we.2.1 we.2.2.1 we.2.2.2.1 we.2.2.2.2)) (λ(we:yT)=>J (.exit 0) (zfq we.1 we.2.1 we.2.2.1 we.2.2.2.1 we.2.2.2.2)) e):=by
 induction k generalizing a b c d f g h i with
 |zero=>rfl
 |succ k ih=>rw[alR];simp only[JZ,TS,ih,cP]
def DI:bu:=DH.add 31 [cZ,.str] (mr cZ .str wy (λ_ r K=>K [.b8 gO r.1 [[1]],.b8 mc r.2 []] none))
theorem o61:dt aj gt DI:=mE ZT (λR kk x0 x1 K=>Ym x0 x1 (λa0 a1=>K [.b8 gO a0 [[1]],.b8 mc a1 []] none) (Yl R kk kk (zy4 R kk K))) o60 ei Tryz.func31 (λR kk e x0 x1 K=>by simp only[wy,Ym,zy5,zy6,aiU (hF:=e),afH,afI,cP,<-e])
def Zs:Env:=jo.env (kp [(3,[0,3,4])]) (kp [(3,[3])]) [] [y3]
def W7(a:(List af))(b:dZ)(c:Int):ae R:=lq Zs DI kk Tryz.f75 116 k J ⟨dA y3 a::uS 2 (dB nL b::iA c::uS 21 []),nS 27 []⟩
def zel(a:dZ):State:=⟨uS 3 (dB nL a::uS 22 []),nS 27 []⟩
def Rq:KX R:=(zl 0 (sk Zs DI kk Tryz.f75 15 (fk Zs Tryz.f75 none K)))
theorem alr a b c:W7 R kk (k+1) J a b c=
 zwe a b c (W7 R kk k J) (λa0=>J (.exit 0) (zel a0)):=by kernel_rfl
theorem ae6 a:Rq R kk K (.exit 0) (zel a)=
 zwf a (λa0=>K [.b8 nL a0 []] none):=by kernel_rfl
theorem ait{kk:Nat}(hF:kk=bE) a b c:W7 R kk k J a b c=(W8 k a b c).bind λe=>J (.exit 0) (zel e):=by
 induction k generalizing a b c with
 |zero=>rfl
 |succ k ih=>rw[alr];simp only[W8,zwe,ih,cP]
def MN:bu:=DI.add 75 [y3] (kY y3 AV Er)
theorem o62:dt aj gt MN:=lv Zs (λR kk x0 K=>zwd x0 (W7 R kk kk (Rq R kk K))) o61 ei Tryz.func75 (λR kk e x0 K=>by simp only[Er,AV,zwd,zwf,ait (hF:=e),ae6,cP,<-e])
def DJ:bu:=MN.add 128 [] (KJ Hs (λ_ r K=>K [.b8 y7 r [[]]] none))
theorem o63:dt aj gt DJ:=OD Iq (λR kk K=>zuq (λa0=>K [.b8 y7 a0 [[]]] none)) o62 ei Tryz.func128 (λR kk e K=>by simp only[Hs,zuq,cP])
def Zr:Env:={jo.env (kp [(4,[1,2,3])]) (kp [(4,[1])]) [] [] with mv:=[31]}
def W5(a:js)(b:(List Int))(c:Int):ae R:=lq Zr DJ kk Tryz.f76 244 k J ⟨uS 1 (dB Au a::dB y7 b::iA c::uS 28 []),nS 33 []⟩
def zek(a:js):State:=⟨uS 1 (dB Au a::uS 30 []),nS 33 []⟩
def Rp:KX R:=(zl 0 (sk Zr DJ kk Tryz.f76 31 (fk Zr Tryz.f76 none K)))
theorem alq a b c:W5 R kk (k+1) J a b c=
 zwb a b c (W5 R kk k J) (λa0=>J (.exit 0) (zek a0)):=by kernel_rfl
theorem ae5 a:Rp R kk K (.exit 0) (zek a)=
 zwc a (λa0=>K [.b8 Au a0 [[]]] none):=by kernel_rfl
theorem ais{kk:Nat}(hF:kk=bE) a b c:W5 R kk k J a b c=(W6 k a b c).bind λe=>J (.exit 0) (zek e):=by
 induction k generalizing a b c with
 |zero=>rfl
 |succ k ih=>rw[alq];simp only[W6,zwb,ih,cP]
def DK:bu:=DJ.add 76 [] (KJ Df (λ_ r K=>K [.b8 Au r [[]]] none))
theorem o64:dt aj gt DK:=OD Zr (λR kk K=>zwa (W5 R kk kk (Rp R kk K))) o63 (ei.mv _) Tryz.func76 (λR kk e K=>by simp only[Df,zwa,zwc,ais (hF:=e),ae5,cP,<-e])
def Zi:Env:=jo.env (kp [(3,[0,3,4])]) (kp [(3,[3])]) [] [nL]
def Wt(a b:dZ)(c:Int):ae R:=lq Zi DK kk Tryz.f77 116 k J ⟨dA nL a::uS 2 (dB nL b::iA c::uS 22 []),nS 28 []⟩
def zdv(a:dZ):State:=⟨uS 3 (dB nL a::uS 23 []),nS 28 []⟩
def Rf:KX R:=(zl 0 (sk Zi DK kk Tryz.f77 15 (fk Zi Tryz.f77 none K)))
theorem alb a b c:Wt R kk (k+1) J a b c=
 zuz a b c (Wt R kk k J) (λa0=>J (.exit 0) (zdv a0)):=by kernel_rfl
theorem aez a:Rf R kk K (.exit 0) (zdv a)=
 zv0 a (λa0=>K [.b8 nL a0 []] none):=by kernel_rfl
theorem ah3{kk:Nat}(hF:kk=bE) a b c:Wt R kk k J a b c=(Wu k a b c).bind λe=>J (.exit 0) (zdv e):=by
 induction k generalizing a b c with
 |zero=>rfl
 |succ k ih=>rw[alb];simp only[Wu,zuz,ih,cP]
def MO:bu:=DK.add 77 [nL] (kY nL AM Er)
theorem o65:dt aj gt MO:=lv Zi (λR kk x0 K=>zuy x0 (Wt R kk kk (Rf R kk K))) o64 ei Tryz.func77 (λR kk e x0 K=>by simp only[Er,AM,zuy,zv0,ah3 (hF:=e),aez,cP,<-e])
def anh:Env:=e0 [.str,.str,.str]
def MP:bu:=MO.add 78 [.str,.str,.str] (sG .str .str .str De (λ_ r K=>K [.b8 vH r [[]]] none))
theorem o66:dt aj gt MP:=sX anh (λR kk x0 x1 x2 K=>zw9 x0 x1 x2 (λa0=>K [.b8 vH a0 [[]]] none)) o65 ei Tryz.func78 (λR kk e x0 x1 x2 K=>by simp only[De,zw9,cP])
def ang:Env:={jo.env (λ_=>[]) (λ_=>[]) [0] [] with sh:=[47,59]}
def DL:bu:=MP.add 33 [] (KJ Dd (λ_ r K=>K [.b8 nE r [[0,1,3],[0,1,2],[0,1,0,2],[0,0,3],[0,0,0,2]]] none))
theorem o67:dt aj gt DL:=OD ang (λR kk K=>zw5 (λa0=>K [.b8 nE a0 [[0,1,3],[0,1,2],[0,1,0,2],[0,0,3],[0,0,0,2]]] none)) o66 (ei.sh _) Tryz.func33 (λR kk e K=>by simp only[Dd,zw5,cP])
def ZS:Env:=jo.env (kp [(2,[0,1,7,8])]) (kp [(2,[4])]) [] [y7,y1]
def Yf(a:(List Int))(b c d:Int):ae R:=lq ZS DL kk Tryz.f205 52 k J ⟨dA y7 a::iA b::uS 5 (iA c::iA d::uS 10 []),nS 20 []⟩
def zfn(a:Int):State:=⟨uS 4 (iA a::uS 14 []),nS 20 []⟩
def zfo:State:=⟨uS 19 [],nS 20 []⟩
def zy0:KX R:=(zl 0 (sk ZS DL kk Tryz.f205 7 (fk ZS Tryz.f205 none K)))
theorem alQ a b c d:Yf R kk (k+1) J a b c d=
 zy1 a b c d (λa0=>J .ret (zfn a0)) (Yf R kk k J) (J (.exit 0) (zfo)):=by kernel_rfl
theorem afF a:zy0 R kk K .ret (zfn a)=
 zy2 a (λa0=>K [tI a0] none):=by kernel_rfl
theorem afG:zy0 R kk K (.exit 0) (zfo)=
 zy3 (λa0=>K [tI a0] none):=by kernel_rfl
theorem aiT{kk:Nat}(hF:kk=bE) a b c d:Yf R kk k J a b c d=(TR k a b c d).bind λe=>(aA (λ(we:Int)=>J .ret (zfn we)) (λ(we:Unit)=>J (.exit 0) (zfo)) e):=by
 induction k generalizing a b c d with
 |zero=>rfl
 |succ k ih=>rw[alQ];simp only[TR,zy1,ih,cP]
def MQ:bu:=DL.add 205 [y7,y1] (mr y7 y1 Di gk)
theorem o68:dt aj gt MQ:=mE ZS (λR kk x0 x1 K=>Yg x0 x1 (Yf R kk kk (zy0 R kk K))) o67 ei Tryz.func205 (λR kk e x0 x1 K=>by simp only[gk,Di,Yg,zy2,zy3,aiT (hF:=e),afF,afG,cP,<-e])
def anz:Env:=e0 [y7,y1]
def MR:bu:=MQ.add 179 [y7,y1] (mr y7 y1 Be ew)
theorem o69:dt aj gt MR:=mE anz (λR kk x0 x1 K=>Ya x0 x1 (λa0=>K [tB a0] none)) o68 ei Tryz.func179 (λR kk e x0 x1 K=>by simp only[ew,Be,Ya,cP])
def anp:Env:=e0 [jG,y1]
def MS:bu:=MR.add 139 [jG,y1] (mr jG y1 Bb gk)
theorem o70:dt aj gt MS:=mE anp (λR kk x0 x1 K=>XR x0 x1 (λa0=>K [tI a0] none)) o69 ei Tryz.func139 (λR kk e x0 x1 K=>by simp only[gk,Bb,XR,cP])
def Sd:Env:=e0 [nD,.unit]
def DM:bu:=MS.add 181 [nD,.unit] (pz nD nD nD [] yK En)
theorem o71:dt aj gt DM:=sz Sd (λR kk x0 x1 K=>XQ x0 x1 (λa0 a1=>K [tB a0] (some ⟨nD,a1,[]⟩))) o70 ei Tryz.func181 (λR kk e x0 x1 K=>by simp only[En,yK,XQ,cP])
def ZQ:Env:=jo.env (kp [(2,[0,1,7,8])]) (kp [(2,[4])]) [] [vH,.unit]
def Yb(a:cQ)(b c:Int)(d:eS):ae R:=lq ZQ DM kk Tryz.f206 52 k J ⟨dA vH a::pA 0 y34::uS 5 (iA b::iA c::uS 10 []),oA nD d::nS 19 []⟩
def zfj(a:Int)(b:eS):State:=⟨uS 4 (iA a::uS 14 []),oA nD b::nS 19 []⟩
def zfk(a:eS):State:=⟨uS 19 [],oA nD a::nS 19 []⟩
def zxs(a:eS):KX R:=(zl 0 (sk ZQ DM kk Tryz.f206 7 (fk ZQ Tryz.f206 (some ⟨nD,a,[]⟩) K)))
theorem alO a b c d:Yb R kk (k+1) J a b c d=
 zxt a b c d (λa0 a1=>J .ret (zfj a0 a1)) (Yb R kk k J) (λa0=>J (.exit 0) (zfk a0)):=by kernel_rfl
theorem afB a b c:zxs R kk K a .ret (zfj b c)=
 zxu b c (λa0 a1=>K [tI a0] (some ⟨nD,a1,[]⟩)):=by kernel_rfl
theorem afC a b:zxs R kk K a (.exit 0) (zfk b)=
 zxv b (λa0 a1=>K [tI a0] (some ⟨nD,a1,[]⟩)):=by kernel_rfl
theorem aiR{kk:Nat}(hF:kk=bE) a b c d:Yb R kk k J a b c d=(TP k a b c d).bind λe=>(aA (λ(we:(Int×eS))=>J .ret (zfj we.1 we.2)) (λ(we:eS)=>J (.exit 0) (zfk we)) e):=by
 induction k generalizing a b c d with
 |zero=>rfl
 |succ k ih=>rw[alO];simp only[TP,zxt,ih,cP]
def MT:bu:=DM.add 206 [vH,.unit] (pz vH y34 nD [] Dh (λ_ r K=>K [tI r.1] (some ⟨nD,r.2,[]⟩)))
theorem o72:dt aj gt MT:=sz ZQ (λR kk x0 x1 K=>Yc x0 x1 (Yb R kk kk (zxs R kk K x1))) o71 ei Tryz.func206 (λR kk e x0 x1 K=>by simp only[Dh,Yc,zxu,zxv,aiR (hF:=e),afB,afC,cP,<-e])
def anx:Env:=e0 [vH,.unit]
def MU:bu:=MT.add 180 [vH,.unit] (pz vH y34 nD [] Bd En)
theorem o73:dt aj gt MU:=sz anx (λR kk x0 x1 K=>X9 x0 x1 (λa0 a1=>K [tB a0] (some ⟨nD,a1,[]⟩))) o72 ei Tryz.func180 (λR kk e x0 x1 K=>by simp only[En,Bd,X9,cP])
def ano:Env:=e0 [jG,y1,kP]
def yO:bu:=MU.add 140 [jG,y1,kP] (sG jG y1 kP Ba gk)
theorem o74:dt aj gt yO:=sX ano (λR kk x0 x1 x2 K=>XP x0 x1 x2 (λa0=>K [tI a0] none)) o73 ei Tryz.func140 (λR kk e x0 x1 x2 K=>by simp only[gk,Ba,XP,cP])
def J9:Env:=jo.env (kp [(8,[1,7,33,34]),(16,[1,7,11,46,47,48])]) (kp [(8,[1,2,3,4,7]),(16,[1,2,3,4,11])]) [] [jG]
def XF(a b:Int)(c:ct)(d:dU):ae R:=lq J9 yO kk kz 500 k J ⟨uS 1 (pA 2 jG::uS 5 (pA 8 kP::uS 25 (iA a::iA b::uS 38 []))),nS 2 (oA jG c::nS 5 (oA kP d::nS 65 []))⟩
def zf1(a b c:Int)(d:ct)(e:dU):State:=⟨uS 1 (pA 2 jG::iA a::iA b::iA c::uS 2 (pA 8 kP::uS 65 [])),nS 2 (oA jG d::nS 5 (oA kP e::nS 65 []))⟩
def zf2(a:ct)(b:dU):State:=⟨uS 1 (pA 2 jG::uS 5 (pA 8 kP::uS 65 [])),nS 2 (oA jG a::nS 5 (oA kP b::nS 65 []))⟩
def zx6:KX R:=(zl 0 (sk J9 yO kk kz 63 (fk J9 kz none K)))
def XG(a:Bool)(b:cQ)(c d:Int)(e:ct)(f:dU):ae R:=lq J9 yO kk kz 2036 k J ⟨uS 1 (pA 2 jG::uS 5 (pA 8 kP::uS 3 (bA a::uS 34 (dA vH b::iA c::iA d::uS 24 [])))),nS 2 (oA jG e::nS 5 (oA kP f::nS 65 []))⟩
def zf3(a b c:Int)(d:Bool)(e:ct):State:=⟨uS 1 (pA 2 jG::iA a::iA b::iA c::uS 6 (bA d::uS 61 [])),nS 2 (oA jG e::nS 71 [])⟩
def zf4(a:Bool)(b:ct):State:=⟨uS 1 (pA 2 jG::uS 9 (bA a::uS 61 [])),nS 2 (oA jG b::nS 71 [])⟩
def zx7:KX R:=(zl 2 (sk J9 yO kk kz 255 (fk J9 kz none K)))
theorem alE a b c d:XF R kk (k+1) J a b c d=
 TJ a b c d (λa0 a1 a2 a3 a4=>J .ret (zf1 a0 a1 a2 a3 a4)) (XF R kk k J) (λa0 a1=>J (.exit 0) (zf2 a0 a1)):=by kernel_rfl
theorem afk a b c d e:zx6 R kk K .ret (zf1 a b c d e)=
 zx8 a b c d e (λa0 a1 a2=>K [tI a0,tI a1,tI a2] none):=by kernel_rfl
theorem afl a b:zx6 R kk K (.exit 0) (zf2 a b)=
 XI a b (XG R kk kk (zx7 R kk K)):=by kernel_rfl
theorem alF a b c d e f:XG R kk (k+1) J a b c d e f=
 TK a b c d e f (λa0 a1 a2 a3 a4=>J .ret (zf3 a0 a1 a2 a3 a4)) (XG R kk k J) (λa0 a1=>J (.exit 2) (zf4 a0 a1)):=by kernel_rfl
theorem afm a b c d e:zx7 R kk K .ret (zf3 a b c d e)=
 zx9 a b c d e (λa0 a1 a2=>K [tI a0,tI a1,tI a2] none):=by kernel_rfl
theorem afn a b:zx7 R kk K (.exit 2) (zf4 a b)=
 XJ a b (λa0 a1 a2=>K [tI a0,tI a1,tI a2] none):=by kernel_rfl
theorem aiF{kk:Nat}(hF:kk=bE) a b c d:XF R kk k J a b c d=(JW k a b c d).bind λe=>(aA (λ(we:(Int×Int×Int×ct×dU))=>J .ret (zf1 we.1 we.2.1 we.2.2.1 we.2.2.2.1 we.2.2.2.2)) (λ(we:(ct×dU))=>J (.exit 0) (zf2 we.1 we.2)) e):=by
 induction k generalizing a b c d with
 |zero=>rfl
 |succ k ih=>rw[alE];simp only[JW,TJ,ih,cP]
theorem aiG{kk:Nat}(hF:kk=bE) a b c d f g:XG R kk k J a b c d f g=(JX k a b c d f g).bind λe=>(aA (λ(we:(Int×Int×Int×Bool×ct))=>J .ret (zf3 we.1 we.2.1 we.2.2.1 we.2.2.2.1 we.2.2.2.2)) (λ(we:(Bool×ct))=>J (.exit 2) (zf4 we.1 we.2)) e):=by
 induction k generalizing a b c d f g with
 |zero=>rfl
 |succ k ih=>rw[alF];simp only[JX,TK,ih,cP]
def MV:bu:=yO.add 82 [jG] (kY jG A8 m4)
theorem o75:dt aj gt MV:=lv J9 (λR kk x0 K=>XH x0 (λa0 a1 a2=>K [tI a0,tI a1,tI a2] none) (XF R kk kk (zx6 R kk K))) o74 ei Tryz.func82 (λR kk e x0 K=>by simp only[m4,A8,XH,zx8,XI,zx9,XJ,aiF (hF:=e),aiG (hF:=e),afk,afl,afm,afn,cP,<-e])
def MW:bu:=MV.add 164 [.str] (kY .str wo ew)
theorem o76:dt aj gt MW:=lv J8 (λR kk x0 K=>Xu x0 (λa0=>K [tB a0] none)) o75 ei Tryz.func164 (λR kk e x0 K=>by simp only[ew,wo,Xu,cP])
def anE:Env:=e0 [KO,cZ,cZ]
def MX:bu:=MW.add 141 [KO,cZ,cZ] (sG KO cZ cZ wD ew)
theorem o77:dt aj gt MX:=sX anE (λR kk x0 x1 x2 K=>YV x0 x1 x2 (λa0=>K [tB a0] none)) o76 ei Tryz.func141 (λR kk e x0 x1 x2 K=>by simp only[ew,wD,YV,cP])
def anw:Env:=jo.env (λ_=>[]) (λ_=>[]) [6,7] [lg,cZ,cZ]
def MY:bu:=MX.add 182 [lg,cZ,cZ] (sG lg cZ cZ Bc (λ_ r K=>K [.b8 kP r.1 [],.b8 kP r.2.1 [],tI r.2.2] none))
theorem o78:dt aj gt MY:=sX anw (λR kk x0 x1 x2 K=>XY x0 x1 x2 (λa0 a1 a2=>K [.b8 kP a0 [],.b8 kP a1 [],tI a2] none)) o77 ei Tryz.func182 (λR kk e x0 x1 x2 K=>by simp only[Bc,XY,cP])
def MZ:bu:=MY.add 240 [y1,y1] (mr y1 y1 LL ew)
theorem o79:dt aj gt MZ:=mE ZG (λR kk x0 x1 K=>Zz x0 x1 (λa0=>K [tB a0] none)) o78 ei Tryz.func240 (λR kk e x0 x1 K=>by simp only[ew,LL,Zz,cP])
def M0:bu:=MZ.add 207 [y1,y1] (mr y1 y1 Dj ew)
theorem o80:dt aj gt M0:=mE ZG (λR kk x0 x1 K=>Yk x0 x1 (λa0=>K [tB a0] none)) o79 ei Tryz.func207 (λR kk e x0 x1 K=>by simp only[ew,Dj,Yk,cP])
def Sf:Env:=e0 [kP,kP]
def M1:bu:=M0.add 183 [kP,kP] (mr kP kP tR ew)
theorem o81:dt aj gt M1:=mE Sf (λR kk x0 x1 K=>Yj x0 x1 (λa0=>K [tB a0] none)) o80 ei Tryz.func183 (λR kk e x0 x1 K=>by simp only[ew,tR,Yj,cP])
def DN:bu:=M1.add 184 [kP] (kY kP qR ew)
theorem o82:dt aj gt DN:=lv IC (λR kk x0 K=>XZ x0 (λa0=>K [tB a0] none)) o81 ei Tryz.func184 (λR kk e x0 K=>by simp only[ew,qR,XZ,cP])
def xd:Env:=jo.env (kp [(5,[4,10,11,12,13])]) (kp [(5,[2,3])]) [] [nL]
def ZL(a:dZ)(b c:Int)(d:sL):ae R:=lq xd DN kk Tryz.f208 244 k J ⟨uS 4 (pA 11 KN::uS 5 (pA 11 KN::dA nL a::iA b::iA c::uS 13 [])),nS 11 (oA KN d::nS 16 [])⟩
def zoc(a b:Int):State:=⟨uS 2 (iA a::iA b::uS 23 []),nS 28 []⟩
def zod:State:=⟨uS 27 [],nS 28 []⟩
def Iy:KX R:=(zl 0 (sk xd DN kk Tryz.f208 31 (fk xd Tryz.f208 none K)))
theorem ant a b c d:ZL R kk (k+1) J a b c d=
 Iz a b c d (λa0 a1=>J .ret (zoc a0 a1)) (ZL R kk k J) (J (.exit 0) (zod)):=by kernel_rfl
theorem aiM a b:Iy R kk K .ret (zoc a b)=
 IA a b (λa0 a1=>K [tI a0,tI a1] none):=by kernel_rfl
theorem aiN:Iy R kk K (.exit 0) (zod)=
 IB (λa0 a1=>K [tI a0,tI a1] none):=by kernel_rfl
theorem alK{kk:Nat}(hF:kk=bE) a b c d:ZL R kk k J a b c d=(Uf k a b c d).bind λe=>(aA (λ(we:(Int×Int))=>J .ret (zoc we.1 we.2)) (λ(we:Unit)=>J (.exit 0) (zod)) e):=by
 induction k generalizing a b c d with
 |zero=>rfl
 |succ k ih=>rw[ant];simp only[Uf,Iz,ih,cP]
def DO:bu:=DN.add 208 [nL] (kY nL LO vr)
theorem o83:dt aj gt DO:=lv xd (λR kk x0 K=>ZM x0 (λa0 a1=>K [tI a0,tI a1] none) (ZL R kk kk (Iy R kk K))) o82 ei Tryz.func208 (λR kk e x0 K=>by simp only[vr,LO,ZM,IA,IB,alK (hF:=e),aiM,aiN,cP,<-e])
def ZN:Env:=jo.env (kp [(5,[4,5,25,26,27])]) (kp [(5,[6])]) [] [nL,kP,kP]
def X2(a:dZ)(b c:Int)(d e:dU):ae R:=lq ZN DO kk Tryz.f185 116 k J ⟨uS 4 (pA 5 kP::pA 6 kP::uS 19 (dA nL a::iA b::iA c::uS 18 [])),nS 5 (oA kP d::oA kP e::nS 40 [])⟩
def zfd(a:Int):State:=⟨uS 6 (iA a::uS 39 []),nS 47 []⟩
def zfe:State:=⟨uS 46 [],nS 47 []⟩
def zxj:KX R:=(zl 0 (sk ZN DO kk Tryz.f185 15 (fk ZN Tryz.f185 none K)))
theorem alL a b c d e:X2 R kk (k+1) J a b c d e=
 zxk a b c d e (λa0=>J .ret (zfd a0)) (X2 R kk k J) (J (.exit 0) (zfe)):=by kernel_rfl
theorem afv a:zxj R kk K .ret (zfd a)=
 zxl a (λa0=>K [tI a0] none):=by kernel_rfl
theorem afw:zxj R kk K (.exit 0) (zfe)=
 zxm (λa0=>K [tI a0] none):=by kernel_rfl
theorem aiO{kk:Nat}(hF:kk=bE) a b c d f:X2 R kk k J a b c d f=(TM k a b c d f).bind λe=>(aA (λ(we:Int)=>J .ret (zfd we)) (λ(we:Unit)=>J (.exit 0) (zfe)) e):=by
 induction k generalizing a b c d f with
 |zero=>rfl
 |succ k ih=>rw[alL];simp only[TM,zxk,ih,cP]
def M3:bu:=DO.add 185 [nL,kP,kP] (sG nL kP kP uJ gk)
theorem o84:dt aj gt M3:=sX ZN (λR kk x0 x1 x2 K=>X3 x0 x1 x2 (λa0=>K [tI a0] none) (X2 R kk kk (zxj R kk K))) o83 ei Tryz.func185 (λR kk e x0 x1 x2 K=>by simp only[gk,uJ,X3,zxl,zxm,aiO (hF:=e),afv,afw,cP,<-e])
def anv:Env:=e0 [lg,cZ,cZ]
def DP:bu:=M3.add 142 [lg,cZ,cZ] (sG lg cZ cZ ww gk)
theorem o85:dt aj gt DP:=sX anv (λR kk x0 x1 x2 K=>XX x0 x1 x2 (λa0=>K [tI a0] none)) o84 ei Tryz.func142 (λR kk e x0 x1 x2 K=>by simp only[gk,ww,XX,cP])
def xi:Env:=jo.env (kp [(3,[2,3,6,7,8])]) (kp [(3,[2,3])]) [2] [y7]
def Z8(a:(List Int))(b c:Int)(d e:dV):ae R:=lq xi DP kk Tryz.f92 116 k J ⟨uS 2 (pA 3 lQ::pA 4 lQ::uS 2 (dA y7 a::iA b::iA c::uS 8 [])),nS 3 (oA lQ d::oA lQ e::nS 13 [])⟩
def zoi(a b:dV):State:=⟨uS 2 (pA 3 lQ::pA 4 lQ::uS 13 []),nS 3 (oA lQ a::oA lQ b::nS 13 [])⟩
def Si:KX R:=(zl 0 (sk xi DP kk Tryz.f92 15 (fk xi Tryz.f92 none K)))
theorem anI a b c d e:Z8 R kk (k+1) J a b c d e=
 Ui a b c d e (Z8 R kk k J) (λa0 a1=>J (.exit 0) (zoi a0 a1)):=by kernel_rfl
theorem aja a b:Si R kk K (.exit 0) (zoi a b)=
 zrt a b (λa0=>K [.b8 lQ a0 []] none):=by kernel_rfl
theorem al6{kk:Nat}(hF:kk=bE) a b c d f:Z8 R kk k J a b c d f=(Hl k a b c d f).bind λe=>J (.exit 0) (zoi e.1 e.2):=by
 induction k generalizing a b c d f with
 |zero=>rfl
 |succ k ih=>rw[anI];simp only[Hl,Ui,ih,cP]
def uQ:bu:=DP.add 92 [y7] (kY y7 CC pX)
theorem o86:dt aj gt uQ:=lv xi (λR kk x0 K=>Z9 x0 (Z8 R kk kk (Si R kk K))) o85 ei Tryz.func92 (λR kk e x0 K=>by simp only[pX,CC,Z9,zrt,al6 (hF:=e),aja,cP,<-e])
def C6:Env:=jo.env (kp [(2,[3,4,5,26,27,28]),(12,[3,4,5,13,46,48,49,50]),(24,[4,5,16,17,77,78,79])]) (kp [(2,[3,4,5,6,7,8]),(12,[3,4,5,6,7,8]),(24,[6,7,8])]) [] [lA,cZ,cZ]
def YG(a:Bu)(b c:Int)(d:c9)(e f:bm):ae R:=lq C6 uQ kk gL 52 k J ⟨uS 3 (pA 4 lA::pA 5 cZ::pA 6 cZ::uS 20 (dB y56 a::iA b::iA c::uS 92 [])),nS 4 (oA lA d::oA cZ e::oA cZ f::nS 115 [])⟩
def zfx(a b c:Int)(d:c9)(e f:bm):State:=⟨uS 3 (pA 4 lA::pA 5 cZ::pA 6 cZ::iA a::iA b::iA c::uS 112 []),nS 4 (oA lA d::oA cZ e::oA cZ f::nS 115 [])⟩
def zfy(a:c9)(b c:bm):State:=⟨uS 3 (pA 4 lA::pA 5 cZ::pA 6 cZ::uS 115 []),nS 4 (oA lA a::oA cZ b::oA cZ c::nS 115 [])⟩
def zyd:KX R:=(zl 0 (sk C6 uQ kk gL 7 (fk C6 gL none K)))
def YH(a:dZ)(b c:Int)(d:c9)(e f:bm)(g:sL):ae R:=lq C6 uQ kk gL 500 k J ⟨uS 3 (pA 4 lA::pA 5 cZ::pA 6 cZ::uS 7 (pA 47 KN::uS 32 (pA 47 KN::uS 1 (dA nL a::iA b::iA c::uS 70 [])))),nS 4 (oA lA d::oA cZ e::oA cZ f::nS 40 (oA KN g::nS 74 []))⟩
def zfz(a b c:Int)(d:c9)(e f:bm):State:=⟨uS 3 (pA 4 lA::pA 5 cZ::pA 6 cZ::iA a::iA b::iA c::uS 112 []),nS 4 (oA lA d::oA cZ e::oA cZ f::nS 115 [])⟩
def zg0(a:c9)(b c:bm):State:=⟨uS 3 (pA 4 lA::pA 5 cZ::pA 6 cZ::uS 115 []),nS 4 (oA lA a::oA cZ b::oA cZ c::nS 115 [])⟩
def zye:KX R:=(zl 2 (sk C6 uQ kk gL 63 (fk C6 gL none K)))
def YI(a:js)(b c:Int)(d e:bm)(f g:dV):ae R:=lq C6 uQ kk gL 4084 k J ⟨uS 4 (pA 5 cZ::pA 6 cZ::uS 10 (pA 17 lQ::pA 18 lQ::uS 59 (dA Au a::iA b::iA c::uS 41 []))),nS 5 (oA cZ d::oA cZ e::nS 10 (oA lQ f::oA lQ g::nS 103 []))⟩
def zg1(a b c:Int):State:=⟨uS 6 (iA a::iA b::iA c::uS 112 []),nS 122 []⟩
def zg2:State:=⟨uS 121 [],nS 122 []⟩
def zyf:KX R:=(zl 5 (sk C6 uQ kk gL 511 (fk C6 gL none K)))
theorem alW a b c d e f:YG R kk (k+1) J a b c d e f=
 YK a b c d e f (λa0 a1 a2 a3 a4 a5=>J .ret (zfx a0 a1 a2 a3 a4 a5)) (YG R kk k J) (λa0 a1 a2=>J (.exit 0) (zfy a0 a1 a2)):=by kernel_rfl
theorem afO a b c d e f:zyd R kk K .ret (zfx a b c d e f)=
 zyg a b c d e f (λa0 a1 a2=>K [tI a0,tI a1,tI a2] none):=by kernel_rfl
theorem afP a b c:zyd R kk K (.exit 0) (zfy a b c)=
 YL a b c (λa0 a1 a2=>K [tI a0,tI a1,tI a2] none) (YH R kk kk (zye R kk K)):=by kernel_rfl
theorem alX a b c d e f g:YH R kk (k+1) J a b c d e f g=
 zyh a b c d e f g (λa0 a1 a2 a3 a4 a5=>J .ret (zfz a0 a1 a2 a3 a4 a5)) (YH R kk k J) (λa0 a1 a2=>J (.exit 2) (zg0 a0 a1 a2)):=by kernel_rfl
theorem afQ a b c d e f:zye R kk K .ret (zfz a b c d e f)=
 zyi a b c d e f (λa0 a1 a2=>K [tI a0,tI a1,tI a2] none):=by kernel_rfl
theorem afR a b c:zye R kk K (.exit 2) (zg0 a b c)=
 YM a b c (λa0 a1 a2=>K [tI a0,tI a1,tI a2] none) (YI R kk kk (zyf R kk K)):=by kernel_rfl
theorem alY a b c d e f g:YI R kk (k+1) J a b c d e f g=
 zyj a b c d e f g (λa0 a1 a2=>J .ret (zg1 a0 a1 a2)) (YI R kk k J) (J (.exit 5) (zg2)):=by kernel_rfl
theorem afS a b c:zyf R kk K .ret (zg1 a b c)=
 zyk a b c (λa0 a1 a2=>K [tI a0,tI a1,tI a2] none):=by kernel_rfl
theorem afT:zyf R kk K (.exit 5) (zg2)=
 zyl (λa0 a1 a2=>K [tI a0,tI a1,tI a2] none):=by kernel_rfl
theorem aiZ{kk:Nat}(hF:kk=bE) a b c d f g:YG R kk k J a b c d f g=(Lf k a b c d f g).bind λe=>(aA (λ(we:tX)=>J .ret (zfx we.1 we.2.1 we.2.2.1 we.2.2.2.1 we.2.2.2.2.1 we.2.2.2.2.2)) (λ(we:tW)=>J (.exit 0) (zfy we.1 we.2.1 we.2.2)) e):=by
 induction k generalizing a b c d f g with
 |zero=>rfl
 |succ k ih=>rw[alW];simp only[Lf,YK,ih,cP]
theorem ai0{kk:Nat}(hF:kk=bE) a b c d f g h:YH R kk k J a b c d f g h=(Lg k a b c d f g h).bind λe=>(aA (λ(we:tX)=>J .ret (zfz we.1 we.2.1 we.2.2.1 we.2.2.2.1 we.2.2.2.2.1 we.2.2.2.2.2)) (λ(we:tW)=>J (.exit 2) (zg0 we.1 we.2.1 we.2.2)) e):=by
 induction k generalizing a b c d f g h with
 |zero=>rfl
 |succ k ih=>rw[alX];simp only[Lg,zyh,ih,cP]
theorem ai1{kk:Nat}(hF:kk=bE) a b c d f g h:YI R kk k J a b c d f g h=(TU k a b c d f g h).bind λe=>(aA (λ(we:qw)=>J .ret (zg1 we.1 we.2.1 we.2.2)) (λ(we:Unit)=>J (.exit 5) (zg2)) e):=by
 induction k generalizing a b c d f g h with
 |zero=>rfl
 |succ k ih=>rw[alY];simp only[TU,zyj,ih,cP]
def DQ:bu:=uQ.add 83 [lA,cZ,cZ] (sG lA cZ cZ yM m4)
theorem o87:dt aj gt DQ:=sX C6 (λR kk x0 x1 x2 K=>YJ x0 x1 x2 (YG R kk kk (zyd R kk K))) o86 ei Tryz.func83 (λR kk e x0 x1 x2 K=>by simp only[m4,yM,YJ,zyg,YL,zyi,YM,zyk,zyl,aiZ (hF:=e),ai0 (hF:=e),ai1 (hF:=e),afO,afP,afQ,afR,afS,afT,cP,<-e])
def ZK:Env:=jo.env (kp [(4,[1,22,23])]) (kp [(4,[2,3,4])]) [] [nE]
def XS(a:yU)(b:Int)(c:er):ae R:=lq ZK DQ kk Tryz.f37 116 k J ⟨uS 1 (pA 2 nE::uS 20 (dA y60 a::iA b::uS 33 [])),nS 2 (oA nE c::nS 55 [])⟩
def zfa(a b c:Int):State:=⟨uS 2 (iA a::iA b::iA c::uS 52 []),nS 58 []⟩
def zfb:State:=⟨uS 57 [],nS 58 []⟩
def zxg:KX R:=(zl 0 (sk ZK DQ kk Tryz.f37 15 (fk ZK Tryz.f37 none K)))
theorem alJ a b c:XS R kk (k+1) J a b c=
 La a b c (λa0 a1 a2=>J .ret (zfa a0 a1 a2)) (XS R kk k J) (J (.exit 0) (zfb)):=by kernel_rfl
theorem afs a b c:zxg R kk K .ret (zfa a b c)=
 zxh a b c (λa0 a1 a2=>K [tI a0,tI a1,tI a2] none):=by kernel_rfl
theorem afu:zxg R kk K (.exit 0) (zfb)=
 zxi (λa0 a1 a2=>K [tI a0,tI a1,tI a2] none):=by kernel_rfl
theorem aiL{kk:Nat}(hF:kk=bE) a b c:XS R kk k J a b c=(JY k a b c).bind λe=>(aA (λ(we:qw)=>J .ret (zfa we.1 we.2.1 we.2.2)) (λ(we:Unit)=>J (.exit 0) (zfb)) e):=by
 induction k generalizing a b c with
 |zero=>rfl
 |succ k ih=>rw[alJ];simp only[JY,La,ih,cP]
def M4:bu:=DQ.add 37 [nE] (kY nE yL m4)
theorem o88:dt aj gt M4:=lv ZK (λR kk x0 K=>XT x0 (λa0 a1 a2=>K [tI a0,tI a1,tI a2] none) (XS R kk kk (zxg R kk K))) o87 ei Tryz.func37 (λR kk e x0 K=>by simp only[m4,yL,XT,zxh,zxi,aiL (hF:=e),afs,afu,cP,<-e])
def DR:bu:=M4.add 121 [.str] (kY .str A4 nY)
theorem o89:dt aj gt DR:=lv J8 (λR kk x0 K=>Xv x0 (λa0 a1=>K [tS a0,tB a1] none)) o88 ei Tryz.func121 (λR kk e x0 K=>by simp only[nY,A4,Xv,cP])
def ZB:Env:=jo.env (kp [(2,[1,9,10,11])]) (kp [(2,[4,5])]) [] [gO,y1]
def Xm(a:Int)(b:cQ)(c d:Int):ae R:=lq ZB DR kk Tryz.f122 52 k J ⟨uS 1 (iA a::uS 7 (dA At b::iA c::iA d::uS 10 [])),nS 23 []⟩
def zev(a:af)(b:Bool):State:=⟨uS 4 (sA a::bA b::uS 16 []),nS 23 []⟩
def zew:State:=⟨uS 22 [],nS 23 []⟩
def zws:KX R:=(zl 0 (sk ZB DR kk Tryz.f122 7 (fk ZB Tryz.f122 none K)))
theorem aly a b c d:Xm R kk (k+1) J a b c d=
 zwt a b c d (λa0 a1=>J .ret (zev a0 a1)) (Xm R kk k J) (J (.exit 0) (zew)):=by kernel_rfl
theorem afe a b:zws R kk K .ret (zev a b)=
 zwu a b (λa0 a1=>K [tS a0,tB a1] none):=by kernel_rfl
theorem aff:zws R kk K (.exit 0) (zew)=
 zwv (λa0 a1=>K [tS a0,tB a1] none):=by kernel_rfl
theorem aiA{kk:Nat}(hF:kk=bE) a b c d:Xm R kk k J a b c d=(TD k a b c d).bind λe=>(aA (λ(we:qT)=>J .ret (zev we.1 we.2)) (λ(we:Unit)=>J (.exit 0) (zew)) e):=by
 induction k generalizing a b c d with
 |zero=>rfl
 |succ k ih=>rw[aly];simp only[TD,zwt,ih,cP]
def DS:bu:=DR.add 122 [gO,y1] (mr gO y1 wl nY)
theorem o90:dt aj gt DS:=mE ZB (λR kk x0 x1 K=>Xn x0 x1 (Xm R kk kk (zws R kk K))) o89 ei Tryz.func122 (λR kk e x0 x1 K=>by simp only[nY,wl,Xn,zwu,zwv,aiA (hF:=e),afe,aff,cP,<-e])
def ZD:Env:=jo.env (kp [(3,[1,4,5,12,13,14])]) (kp [(3,[4,5])]) [4] [gO,y1]
def Xs(a:Int)(b:cQ)(c d:Int)(e f:cu):ae R:=lq ZD DS kk Tryz.f165 116 k J ⟨uS 1 (iA a::uS 2 (pA 5 gO::pA 6 gO::uS 6 (dA At b::iA c::iA d::uS 15 []))),nS 5 ((some ⟨gO,e,[[1]]⟩)::(some ⟨gO,f,[[1]]⟩)::nS 24 [])⟩
def zey(a b:cu):State:=⟨uS 4 (pA 5 gO::pA 6 gO::uS 24 []),nS 5 ((some ⟨gO,a,[[1]]⟩)::(some ⟨gO,b,[[1]]⟩)::nS 24 [])⟩
def Rt:KX R:=(zl 0 (sk ZD DS kk Tryz.f165 15 (fk ZD Tryz.f165 none K)))
theorem alA a b c d e f:Xs R kk (k+1) J a b c d e f=
 zwz a b c d e f (Xs R kk k J) (λa0 a1=>J (.exit 0) (zey a0 a1)):=by kernel_rfl
theorem afh a b:Rt R kk K (.exit 0) (zey a b)=
 zx0 a b (λa0=>K [.b8 gO a0 [[1]]] none):=by kernel_rfl
theorem aiC{kk:Nat}(hF:kk=bE) a b c d f g:Xs R kk k J a b c d f g=(TF k a b c d f g).bind λe=>J (.exit 0) (zey e.1 e.2):=by
 induction k generalizing a b c d f g with
 |zero=>rfl
 |succ k ih=>rw[alA];simp only[TF,zwz,ih,cP]
def M5:bu:=DS.add 165 [gO,y1] (mr gO y1 A3 (λ_ r K=>K [.b8 gO r [[1]]] none))
theorem o91:dt aj gt M5:=mE ZD (λR kk x0 x1 K=>Xt x0 x1 (Xs R kk kk (Rt R kk K))) o90 ei Tryz.func165 (λR kk e x0 x1 K=>by simp only[A3,Xt,zx0,aiC (hF:=e),afh,cP,<-e])
def DT:bu:=M5.add 167 [nD,.unit] (pz nD y1 y1 [] A0 (λ_ r K=>K [tB r.1] (some ⟨y1,r.2,[]⟩)))
theorem o92:dt aj gt DT:=sz Sd (λR kk x0 x1 K=>zwy x0 x1 (λa0 a1=>K [tB a0] (some ⟨y1,a1,[]⟩))) o91 ei Tryz.func167 (λR kk e x0 x1 K=>by simp only[A0,zwy,cP])
def ZR:Env:=jo.env (kp [(2,[0,1,7,8])]) (kp [(2,[4])]) [] [At,.unit]
def Yd(a:cQ)(b c d:Int):ae R:=lq ZR DT kk Tryz.f166 52 k J ⟨dA At a::pA 0 (.dC (.CF 167) y1 .unit)::uS 5 (iA b::iA c::uS 10 []),oA y1 d::nS 19 []⟩
def zfl(a b:Int):State:=⟨uS 4 (iA a::uS 14 []),oA y1 b::nS 19 []⟩
def zfm(a:Int):State:=⟨uS 19 [],oA y1 a::nS 19 []⟩
def zxw(a:Int):KX R:=(zl 0 (sk ZR DT kk Tryz.f166 7 (fk ZR Tryz.f166 (some ⟨y1,a,[]⟩) K)))
theorem alP a b c d:Yd R kk (k+1) J a b c d=
 zxx a b c d (λa0 a1=>J .ret (zfl a0 a1)) (Yd R kk k J) (λa0=>J (.exit 0) (zfm a0)):=by kernel_rfl
theorem afD a b c:zxw R kk K a .ret (zfl b c)=
 zxy b c (λa0 a1=>K [tI a0] (some ⟨y1,a1,[]⟩)):=by kernel_rfl
theorem afE a b:zxw R kk K a (.exit 0) (zfm b)=
 zxz b (λa0 a1=>K [tI a0] (some ⟨y1,a1,[]⟩)):=by kernel_rfl
theorem aiS{kk:Nat}(hF:kk=bE) a b c d:Yd R kk k J a b c d=(TQ k a b c d).bind λe=>(aA (λ(we:(Int×Int))=>J .ret (zfl we.1 we.2)) (λ(we:Int)=>J (.exit 0) (zfm we)) e):=by
 induction k generalizing a b c d with
 |zero=>rfl
 |succ k ih=>rw[alP];simp only[TQ,zxx,ih,cP]
def M6:bu:=DT.add 166 [At,.unit] (pz At (.dC (.CF 167) y1 .unit) y1 [] Bf (λ_ r K=>K [tI r.1] (some ⟨y1,r.2,[]⟩)))
theorem o93:dt aj gt M6:=sz ZR (λR kk x0 x1 K=>Ye x0 x1 (Yd R kk kk (zxw R kk K x1))) o92 ei Tryz.func166 (λR kk e x0 x1 K=>by simp only[Bf,Ye,zxy,zxz,aiS (hF:=e),afD,afE,cP,<-e])
def ank:Env:={jo.env (λ_=>[]) (λ_=>[]) [6] [gO,y1,.str] with fz:=λi=>bif ak i 9 then some (9,81) else none}
def wG:bu:=M6.add 123 [gO,y1,.str] (sG gO y1 .str pJ (λ_ r K=>K [.b8 gO r []] none))
theorem o94:dt aj gt wG:=sX ank (λR kk x0 x1 x2 K=>Xq x0 x1 x2 (λa0=>K [.b8 gO a0 []] none)) o93 (ei.fz _) Tryz.func123 (λR kk e x0 x1 x2 K=>by simp only[pJ,Xq,cP])
def Ka:Env:=jo.env (kp [(2,[2,10,11,12]),(5,[2,6,10,11,12,17,18,19])]) (kp [(2,[4]),(5,[2,4,10,11,12])]) [] [jG,y1]
def XK(a:(List Int))(b c:Int)(d:ct):ae R:=lq Ka wG kk jF 52 k J ⟨uS 2 (pA 3 jG::uS 7 (dB y9 a::iA b::iA c::uS 18 [])),nS 3 (oA jG d::nS 28 [])⟩
def zf5:State:=⟨uS 31 [],nS 32 []⟩
def zf6(a:af):State:=⟨uS 4 (sA a::uS 26 []),nS 32 []⟩
def zxa:KX R:=(zl 0 (sk Ka wG kk jF 7 (fk Ka jF none K)))
def XL(a:Int)(b:(List Int))(c d:Int)(e:cQ)(f g:Int)(h:ct):ae R:=lq Ka wG kk jF 13516 k J ⟨uS 2 (pA 3 jG::uS 3 (iA a::uS 3 (dB y9 b::iA c::iA d::uS 4 (dA vH e::iA f::iA g::uS 11 [])))),nS 3 (oA jG h::nS 28 [])⟩
def zf7(a:af)(b:(List Int))(c d:Int)(e:ct):State:=⟨uS 2 (pA 3 jG::uS 1 (sA a::uS 5 (dB y9 b::iA c::iA d::uS 18 []))),nS 3 (oA jG e::nS 28 [])⟩
def zf8(a:(List Int))(b c:Int)(d:ct):State:=⟨uS 2 (pA 3 jG::uS 7 (dB y9 a::iA b::iA c::uS 18 [])),nS 3 (oA jG d::nS 28 [])⟩
def zxb:KX R:=(zl 2 (zl 1 (sk Ka wG kk jF 423 (lk Ka wG kk jF 52 k J))))
theorem alG a b c d:XK R kk (k+1) J a b c d=
 TL a b c d (XL R kk kk (zxb R kk k J)) (J (.exit 0) (zf5)):=by kernel_rfl
theorem afo:zxa R kk K (.exit 0) (zf5)=
 zxc (λa0=>K [tS a0] none):=by kernel_rfl
theorem alH a b c d e f g h:XL R kk (k+1) J a b c d e f g h=
 zxd a b c d e f g h (λa0 a1 a2 a3 a4=>J .ret (zf7 a0 a1 a2 a3 a4)) (XL R kk k J) (λa0 a1 a2 a3=>J (.exit 2) (zf8 a0 a1 a2 a3)):=by kernel_rfl
theorem afq a b c d e:zxb R kk k J .ret (zf7 a b c d e)=
 zxe a b c d e (λa0=>J .ret (zf6 a0)):=by kernel_rfl
theorem afr a b c d:zxb R kk k J (.exit 2) (zf8 a b c d)=
 XO a b c d (XK R kk k J):=by kernel_rfl
theorem afp a:zxa R kk K .ret (zf6 a)=
 zxf a (λa0=>K [tS a0] none):=by kernel_rfl
theorem aiI{kk:Nat}(hF:kk=bE) a b c d f g h i:XL R kk k J a b c d f g h i=(K9 k a b c d f g h i).bind λe=>(aA (λ(we:(af×(List Int)×Int×Int×ct))=>J .ret (zf7 we.1 we.2.1 we.2.2.1 we.2.2.2.1 we.2.2.2.2)) (λ(we:((List Int)×Int×Int×ct))=>J (.exit 2) (zf8 we.1 we.2.1 we.2.2.1 we.2.2.2)) e):=by
 induction k generalizing a b c d f g h i with
 |zero=>rfl
 |succ k ih=>rw[alH];simp only[K9,zxd,ih,cP]
theorem aiH{kk:Nat}(hF:kk=bE) a b c d:XK R kk k J a b c d=(Hc k a b c d).bind λe=>(aA (λ(we:Unit)=>J (.exit 0) (zf5)) (λ(we:af)=>J .ret (zf6 we)) e):=by
 induction k generalizing a b c d with
 |zero=>rfl
 |succ k ih=>rw[alG];simp only[Hc,TL,zxe,XO,ih,aiI (hF:=hF),afq,afr,cP,<-hF]
def DU:bu:=wG.add 124 [jG,y1] (mr jG y1 A9 sS)
theorem o95:dt aj gt DU:=mE Ka (λR kk x0 x1 K=>XM x0 x1 (XK R kk kk (zxa R kk K))) o94 ei Tryz.func124 (λR kk e x0 x1 K=>by simp only[sS,A9,XM,zxc,zxf,aiH (hF:=e),afo,afp,cP,<-e])
def ZH:Env:={{jo.env (kp [(6,[3,4,5,6,10,27,28,29])]) (kp [(6,[3,5,6,10])]) [6] [jG,gO,mc] with dr:=λi=>bif ak i 6 then [11] else []} with ro:=true}
def XC(a:(List Int))(b c:Int)(d:ct)(e:cu)(f:dV)(g h:cu):ae R:=lq ZH DU kk Tryz.f73 500 k J ⟨uS 3 (pA 4 jG::pA 5 gO::pA 6 mc::pA 7 gO::uS 3 (pA 11 gO::uS 16 (dA y7 a::iA b::iA c::uS 21 []))),nS 4 (oA jG d::oA gO e::oA mc f::(some ⟨gO,g,[[1]]⟩)::nS 3 (oA gO h::nS 40 []))⟩
def zf0(a:ct)(b:dV)(c d:cu):State:=⟨uS 3 (pA 4 jG::uS 1 (pA 6 mc::pA 7 gO::uS 3 (pA 11 gO::uS 40 []))),nS 4 (oA jG a::nS 1 (oA mc b::(some ⟨gO,c,[[1]]⟩)::nS 3 (oA gO d::nS 40 [])))⟩
def Rv:KX R:=(zl 0 (sk ZH DU kk Tryz.f73 63 (fk ZH Tryz.f73 none K)))
theorem alD a b c d e f g h:XC R kk (k+1) J a b c d e f g h=
 zx5 a b c d e f g h (XC R kk k J) (λa0 a1 a2 a3=>J (.exit 0) (zf0 a0 a1 a2 a3)):=by kernel_rfl
theorem afj a b c d:Rv R kk K (.exit 0) (zf0 a b c d)=
 XE a b c d (λa0 a1=>K [.b8 gO a0 [],tB a1] none):=by kernel_rfl
theorem aiE{kk:Nat}(hF:kk=bE) a b c d f g h i:XC R kk k J a b c d f g h i=(TI k a b c d f g h i).bind λe=>J (.exit 0) (zf0 e.1 e.2.1 e.2.2.1 e.2.2.2):=by
 induction k generalizing a b c d f g h i with
 |zero=>rfl
 |succ k ih=>rw[alD];simp only[TI,zx5,ih,cP]
def M7:bu:=DU.add 73 [jG,gO,mc] (sG jG gO mc A7 (λ_ r K=>K [.b8 gO r.1 [],tB r.2] none))
theorem o96:dt aj gt M7:=sX ZH (λR kk x0 x1 x2 K=>XD x0 x1 x2 (λa0 a1=>K [.b8 gO a0 [],tB a1] none) (XC R kk kk (Rv R kk K))) o95 ((ei.dr _).ro _) Tryz.func73 (λR kk e x0 x1 x2 K=>by simp only[A7,XD,XE,aiE (hF:=e),afj,cP,<-e])
def ans:Env:=e0 [gO,mc,.unit,.unit]
def DV:bu:=M7.add 72 [gO,mc,.unit,.unit] (pv gO mc jG nE sK Ep)
theorem o97:dt aj gt DV:=sv ans (λR kk x0 x1 x2 x3 K=>XV x0 x1 x2 x3 (λa0 a1=>K [tI a0,tS a1] none)) o96 ei Tryz.func72 (λR kk e x0 x1 x2 x3 K=>by simp only[Ep,sK,XV,cP])
def ZX:Env:=jo.env (kp [(2,[1,9,10,11])]) (kp [(2,[4,5])]) [] [lA,.str]
def YT(a:af)(b:dZ)(c d:Int):ae R:=lq ZX DV kk Tryz.f125 52 k J ⟨uS 1 (sA a::uS 7 (dA nL b::iA c::iA d::uS 10 [])),nS 23 []⟩
def zg8(a:af)(b:Bool):State:=⟨uS 4 (sA a::bA b::uS 16 []),nS 23 []⟩
def zg9:State:=⟨uS 22 [],nS 23 []⟩
def zyv:KX R:=(zl 0 (sk ZX DV kk Tryz.f125 7 (fk ZX Tryz.f125 none K)))
theorem al2 a b c d:YT R kk (k+1) J a b c d=
 zyw a b c d (λa0 a1=>J .ret (zg8 a0 a1)) (YT R kk k J) (J (.exit 0) (zg9)):=by kernel_rfl
theorem afZ a b:zyv R kk K .ret (zg8 a b)=
 zyx a b (λa0 a1=>K [tS a0,tB a1] none):=by kernel_rfl
theorem af0:zyv R kk K (.exit 0) (zg9)=
 zyy (λa0 a1=>K [tS a0,tB a1] none):=by kernel_rfl
theorem ai5{kk:Nat}(hF:kk=bE) a b c d:YT R kk k J a b c d=(TY k a b c d).bind λe=>(aA (λ(we:qT)=>J .ret (zg8 we.1 we.2)) (λ(we:Unit)=>J (.exit 0) (zg9)) e):=by
 induction k generalizing a b c d with
 |zero=>rfl
 |succ k ih=>rw[al2];simp only[TY,zyw,ih,cP]
def DW:bu:=DV.add 125 [lA,.str] (mr lA .str Bm nY)
theorem o98:dt aj gt DW:=mE ZX (λR kk x0 x1 K=>YU x0 x1 (YT R kk kk (zyv R kk K))) o97 ei Tryz.func125 (λR kk e x0 x1 K=>by simp only[nY,Bm,YU,zyx,zyy,ai5 (hF:=e),afZ,af0,cP,<-e])
def ZW:Env:={jo.env (kp [(2,[1,4,9,10,11])]) (kp [(2,[4,5])]) [4] [lA,y1] with ro:=true}
def YR(a:Int)(b:js)(c d:Int)(e:dg):ae R:=lq ZW DW kk Tryz.f126 52 k J ⟨uS 1 (iA a::uS 2 (pA 5 lg::uS 4 (dA Au b::iA c::iA d::uS 10 []))),nS 5 ((some ⟨lg,e,[[4]]⟩)::nS 17 [])⟩
def zg6(a:Bool)(b:dg):State:=⟨uS 4 (pA 5 lg::bA a::uS 16 []),nS 5 (oA lg b::nS 17 [])⟩
def zg7(a:dg):State:=⟨uS 4 (pA 5 lg::uS 17 []),nS 5 ((some ⟨lg,a,[[4]]⟩)::nS 17 [])⟩
def zyr:KX R:=(zl 0 (sk ZW DW kk Tryz.f126 7 (fk ZW Tryz.f126 none K)))
theorem al1 a b c d e:YR R kk (k+1) J a b c d e=
 zys a b c d e (λa0 a1=>J .ret (zg6 a0 a1)) (YR R kk k J) (λa0=>J (.exit 0) (zg7 a0)):=by kernel_rfl
theorem afX a b:zyr R kk K .ret (zg6 a b)=
 zyt a b (λa0 a1=>K [.b8 lg a0 [],tB a1] none):=by kernel_rfl
theorem afY a:zyr R kk K (.exit 0) (zg7 a)=
 zyu a (λa0 a1=>K [.b8 lg a0 [],tB a1] none):=by kernel_rfl
theorem ai4{kk:Nat}(hF:kk=bE) a b c d f:YR R kk k J a b c d f=(TX k a b c d f).bind λe=>(aA (λ(we:(Bool×dg))=>J .ret (zg6 we.1 we.2)) (λ(we:dg)=>J (.exit 0) (zg7 we)) e):=by
 induction k generalizing a b c d f with
 |zero=>rfl
 |succ k ih=>rw[al1];simp only[TX,zys,ih,cP]
def M8:bu:=DW.add 126 [lA,y1] (mr lA y1 wC (λ_ r K=>K [.b8 lg r.1 [],tB r.2] none))
theorem o99:dt aj gt M8:=mE ZW (λR kk x0 x1 K=>YS x0 x1 (YR R kk kk (zyr R kk K))) o98 (ei.ro _) Tryz.func126 (λR kk e x0 x1 K=>by simp only[wC,YS,zyt,zyu,ai4 (hF:=e),afX,afY,cP,<-e])
def Tryz.oF:lZ:=⟨λ|105=>197|212=>227|99=>228|165=>229|166=>60|170=>230|169=>66|263=>261|264=>262|206=>263|240=>101|241=>264|276=>153|277=>278|n=>n,λ|9=>9|3=>3|4=>4|20=>20|0=>0|46=>65|109=>296|5=>5|72=>131|76=>134|51=>319|146=>320|53=>107|148=>187|70=>129|37=>92|75=>133|127=>194|164=>240|80=>143|n=>n,λn=>n⟩
theorem Tryz.mU:Go.Proofs.Lays.n105 eB Tryz.oF:={
 mixed:=by kernel_rfl,
 f99:=Go.Proofs.Tryz.func228.trans (congrArg some (by kernel_rfl)),
 f105:=Go.Proofs.Tryz.func197.trans (congrArg some (by kernel_rfl)),
 f165:=Go.Proofs.Tryz.func229.trans (congrArg some (by kernel_rfl)),
 f166:=Go.Proofs.Tryz.func60.trans (congrArg some (by kernel_rfl)),
 f169:=Go.Proofs.Tryz.func66.trans (congrArg some (by kernel_rfl)),
 f170:=Go.Proofs.Tryz.func230.trans (congrArg some (by kernel_rfl)),
 f206:=Go.Proofs.Tryz.func263.trans (congrArg some (by kernel_rfl)),
 f212:=Go.Proofs.Tryz.func227.trans (congrArg some (by kernel_rfl)),
 f240:=Go.Proofs.Tryz.func101.trans (congrArg some (by kernel_rfl)),
 f241:=Go.Proofs.Tryz.func264.trans (congrArg some (by kernel_rfl)),
 f263:=Go.Proofs.Tryz.func261.trans (congrArg some (by kernel_rfl)),
 f264:=Go.Proofs.Tryz.func262.trans (congrArg some (by kernel_rfl)),
 f276:=Go.Proofs.Tryz.func153.trans (congrArg some (by kernel_rfl)),
 f277:=Go.Proofs.Tryz.func278.trans (congrArg some (by kernel_rfl)),
 t0:=fN,
 a0:=ii,
 z0:=gX,
 v0:=gb,
 t3:=fO,
 a3:=ij,
 z3:=gY,
 v3:=gd,
 t4:=ji,
 a4:=kB,
 z4:=kc,
 v4:=jq,
 t5:=fP,
 a5:=il,
 z5:=gZ,
 v5:=gf,
 t9:=fQ,
 a9:=im,
 z9:=hD,
 v9:=gh,
 t20:=iS,
 a20:=kb,
 z20:=jW,
 v20:=jj,
 t37:=fC,
 a37:=gW,
 z37:=gI,
 v37:=fR,
 t46:=Go.Proofs.Tryz.underlying65,
 a46:=Go.Proofs.Tryz.isAgg65,
 z46:=Go.Proofs.Tryz.sizeOf65,
 v46:=Go.Proofs.Tryz.zeroValue65,
 t51:=Go.Proofs.Tryz.underlying319,
 a51:=Go.Proofs.Tryz.isAgg319,
 z51:=Go.Proofs.Tryz.sizeOf319,
 v51:=Go.Proofs.Tryz.zeroValue319,
 t53:=Go.Proofs.Tryz.underlying107,
 a53:=Go.Proofs.Tryz.isAgg107,
 z53:=Go.Proofs.Tryz.sizeOf107,
 v53:=Go.Proofs.Tryz.zeroValue107,
 t70:=fp,
 a70:=gG,
 z70:=gx,
 v70:=fD,
 t72:=fq,
 a72:=gH,
 z72:=gy,
 v72:=fE,
 t75:=iC,
 a75:=jT,
 z75:=jA,
 v75:=iT,
 t76:=Go.Proofs.Tryz.underlying134,
 a76:=Go.Proofs.Tryz.isAgg134,
 z76:=Go.Proofs.Tryz.sizeOf134,
 v76:=Go.Proofs.Tryz.zeroValue134,
 t109:=Go.Proofs.Tryz.underlying296,
 a109:=Go.Proofs.Tryz.isAgg296,
 z109:=Go.Proofs.Tryz.sizeOf296,
 v109:=Go.Proofs.Tryz.zeroValue296,
 t127:=iD,
 a127:=jU,
 z127:=jB,
 v127:=iU,
 t146:=Go.Proofs.Tryz.underlying320,
 a146:=Go.Proofs.Tryz.isAgg320,
 z146:=Go.Proofs.Tryz.sizeOf320,
 v146:=Go.Proofs.Tryz.zeroValue320,
 t148:=Go.Proofs.Tryz.underlying187,
 a148:=Go.Proofs.Tryz.isAgg187,
 z148:=Go.Proofs.Tryz.sizeOf187,
 v148:=Go.Proofs.Tryz.zeroValue187,
 t164:=iE,
 a164:=jV,
 z164:=jC,
 v164:=iV}
theorem Tryz.uZ:gF eB Tryz.oF:={
 sizeBuilder:=by kernel_rfl,
 liesBuilder:=by kernel_rfl,
 t5:=Tryz.mU.t5,
 a5:=Tryz.mU.a5,
 z5:=Tryz.mU.z5,
 v5:=Tryz.mU.v5,
 infoByte:=by kernel_rfl,
 cellsByte:=by kernel_rfl,
 sizeByte:=by kernel_rfl,
 neB5:=by decide}
noncomputable abbrev zpz:Code:=Tryz.f197.body.getD .skip
theorem zi7:Ah aj 197:=⟨Tryz.f197,zpz,Tryz.func197,by kernel_rfl,by kernel_rfl⟩
def z9n:Pure:=λR l b K=>oH b (nM .str y1 l λx0 x1=>(strings_Repeat x0 x1).bind λr=>K [.b8 .str r []] none)
theorem zq0:z9n.Nat:=λR S l b F G K h=>JB (zgw λ_ _=>z24 λ_=>h _ _)
def xL:bu:=M8.add 197 [] z9n
theorem aaS:dt aj gt xL:=⟨o99.mix,YW o99.nat zq0,akm o99.Cf zi7 strings_Repeat (zdl Tryz.mU Tryz.uZ (by kernel_rfl))⟩
def Hk:Env:=jo.env (kp [(1,[0,1])]) (kp [(1,[0])]) [] [.str,y0]
def Yt(a:af)(b:Int):ae R:=lq Hk xL kk Tryz.f232 24 k J ⟨sA a::uA b::uS 21 [],nS 24 []⟩
def zfs(a:af):State:=⟨sA a::uS 22 [],nS 24 []⟩
def Rx:KX R:=(zl 0 (sk Hk xL kk Tryz.f232 7 (fk Hk Tryz.f232 none K)))
theorem alT a b:Yt R kk (k+1) J a b=
 Yv a b (Yt R kk k J) (λa0=>J (.exit 0) (zfs a0)):=by kernel_rfl
theorem afK a:Rx R kk K (.exit 0) (zfs a)=
 Yw a (λa0=>K [tS a0] none):=by kernel_rfl
theorem aiW{kk:Nat}(hF:kk=bE) a b:Yt R kk k J a b=(Ld k a b).bind λe=>J (.exit 0) (zfs e):=by
 induction k generalizing a b with
 |zero=>rfl
 |succ k ih=>rw[alT];simp only[Ld,Yv,ih,cP]
def xM:bu:=xL.add 232 [.str,y0] (mr .str y0 Dl sS)
theorem aaT:dt aj gt xM:=mE Hk (λR kk x0 x1 K=>Yu x0 x1 (Yt R kk kk (Rx R kk K))) aaS ei Tryz.func232 (λR kk e x0 x1 K=>by simp only[sS,Dl,Yu,Yw,aiW (hF:=e),afK,cP,<-e])
def Yp(a:af)(b:Int):ae R:=lq Hk xM kk Tryz.f231 24 k J ⟨sA a::uA b::uS 15 [],nS 18 []⟩
def zfr(a:af):State:=⟨sA a::uS 16 [],nS 18 []⟩
def Rw:KX R:=(zl 0 (sk Hk xM kk Tryz.f231 7 (fk Hk Tryz.f231 none K)))
theorem alS a b:Yp R kk (k+1) J a b=
 Yr a b (Yp R kk k J) (λa0=>J (.exit 0) (zfr a0)):=by kernel_rfl
theorem afJ a:Rw R kk K (.exit 0) (zfr a)=
 Ys a (λa0=>K [tS a0] none):=by kernel_rfl
theorem aiV{kk:Nat}(hF:kk=bE) a b:Yp R kk k J a b=(Lc k a b).bind λe=>J (.exit 0) (zfr e):=by
 induction k generalizing a b with
 |zero=>rfl
 |succ k ih=>rw[alS];simp only[Lc,Yr,ih,cP]
def Fx:bu:=xM.add 231 [.str,y0] (mr .str y0 Dk sS)
theorem aaU:dt aj gt Fx:=mE Hk (λR kk x0 x1 K=>Yq x0 x1 (Yp R kk kk (Rw R kk K))) aaT ei Tryz.func231 (λR kk e x0 x1 K=>by simp only[sS,Dk,Yq,Ys,aiV (hF:=e),afJ,cP,<-e])
def anB:Env:=e0 [.str,.str]
def Fy:bu:=Fx.add 198 [.str,.str] (mr .str .str Bh sS)
theorem aaV:dt aj gt Fy:=mE anB (λR kk x0 x1 K=>Yo x0 x1 (λa0=>K [tS a0] none)) aaU ei Tryz.func198 (λR kk e x0 x1 K=>by simp only[sS,Bh,Yo,cP])
def xN:bu:=Fy.add 168 [.str,y1] (mr .str y1 LP nY)
theorem aaW:dt aj gt xN:=mE Ug (λR kk x0 x1 K=>Z4 x0 x1 (λa0 a1=>K [tS a0,tB a1] none)) aaV ei Tryz.func168 (λR kk e x0 x1 K=>by simp only[nY,LP,Z4,cP])
def xc:Env:=jo.env (kp [(2,[1,8,9,10])]) (kp [(2,[4,5])]) [] [nL,.str]
def ZI(a:af)(b:dZ)(c d:Int):ae R:=lq xc xN kk Tryz.f169 52 k J ⟨uS 1 (sA a::uS 6 (dA nL b::iA c::iA d::uS 10 [])),nS 22 []⟩
def zoa(a:af)(b:Bool):State:=⟨uS 4 (sA a::bA b::uS 15 []),nS 22 []⟩
def zob:State:=⟨uS 21 [],nS 22 []⟩
def Iw:KX R:=(zl 0 (sk xc xN kk Tryz.f169 7 (fk xc Tryz.f169 none K)))
theorem anq a b c d:ZI R kk (k+1) J a b c d=
 Ix a b c d (λa0 a1=>J .ret (zoa a0 a1)) (ZI R kk k J) (J (.exit 0) (zob)):=by kernel_rfl
theorem aiJ a b:Iw R kk K .ret (zoa a b)=
 z130 a b (λa0 a1=>K [tS a0,tB a1] none):=by kernel_rfl
theorem aiK:Iw R kk K (.exit 0) (zob)=
 z131 (λa0 a1=>K [tS a0,tB a1] none):=by kernel_rfl
theorem alI{kk:Nat}(hF:kk=bE) a b c d:ZI R kk k J a b c d=(Ue k a b c d).bind λe=>(aA (λ(we:qT)=>J .ret (zoa we.1 we.2)) (λ(we:Unit)=>J (.exit 0) (zob)) e):=by
 induction k generalizing a b c d with
 |zero=>rfl
 |succ k ih=>rw[anq];simp only[Ue,Ix,ih,cP]
def Fz:bu:=xN.add 169 [nL,.str] (mr nL .str LN nY)
theorem aaX:dt aj gt Fz:=mE xc (λR kk x0 x1 K=>ZJ x0 x1 (ZI R kk kk (Iw R kk K))) aaW ei Tryz.func169 (λR kk e x0 x1 K=>by simp only[nY,LN,ZJ,z130,z131,alI (hF:=e),aiJ,aiK,cP,<-e])
def anu:Env:=jo.env (λ_=>[]) (λ_=>[]) [6] [lg,cZ,.str]
def tc:bu:=Fz.add 127 [lg,cZ,.str] (sG lg cZ .str wv (λ_ r K=>K [.b8 nD r.1 [],tI r.2] none))
theorem aaY:dt aj gt tc:=sX anu (λR kk x0 x1 x2 K=>XW x0 x1 x2 (λa0 a1=>K [.b8 nD a0 [],tI a1] none)) aaX ei Tryz.func127 (λR kk e x0 x1 x2 K=>by simp only[wv,XW,cP])
def Kb:Env:={{jo.env (kp [(12,[4,6,7,8,9,16,59,60,61]),(18,[4,6,8,9,16,76,77,78])]) (kp [(12,[4,6,7,8,9,16]),(18,[8,9,16])]) [8,9] [lA,cZ,cZ,gO] with dr:=λi=>bif ak i 12 then [17] else []} with ro:=true}
def YN(a:js)(b c:Int)(d:c9)(e:bm)(f g:cu)(h:dV)(i:cu):ae R:=lq Kb tc kk kx 2036 k J ⟨uS 4 (pA 5 lA::uS 1 (pA 7 cZ::pA 8 gO::pA 9 gO::pA 10 mc::uS 6 (pA 17 gO::uS 42 (dA Au a::iA b::iA c::uS 60 [])))),nS 5 (oA lA d::nS 1 (oA cZ e::oA gO f::(some ⟨gO,g,[[1]]⟩)::oA mc h::nS 6 (oA gO i::nS 105 [])))⟩
def zg3(a:c9)(b:bm)(c d:cu)(e:dV)(f:cu):State:=⟨uS 4 (pA 5 lA::uS 1 (pA 7 cZ::pA 8 gO::pA 9 gO::pA 10 mc::uS 6 (pA 17 gO::uS 105 []))),nS 5 (oA lA a::nS 1 (oA cZ b::oA gO c::(some ⟨gO,d,[[1]]⟩)::oA mc e::nS 6 (oA gO f::nS 105 [])))⟩
def Rz:KX R:=(zl 0 (sk Kb tc kk kx 255 (fk Kb kx none K)))
def YO(a:cQ)(b c:Int)(d:c9)(e:bm)(f:cu)(g:dV)(h:cu):ae R:=lq Kb tc kk kx 4084 k J ⟨uS 4 (pA 5 lA::uS 1 (pA 7 cZ::uS 1 (pA 9 gO::pA 10 mc::uS 6 (pA 17 gO::uS 59 (dA At a::iA b::iA c::uS 43 []))))),nS 5 (oA lA d::nS 1 (oA cZ e::nS 1 ((some ⟨gO,f,[[1]]⟩)::oA mc g::nS 6 (oA gO h::nS 105 []))))⟩
def zg4(a:cu)(b:dV)(c:cu):State:=⟨uS 8 (pA 9 gO::pA 10 mc::uS 6 (pA 17 gO::uS 105 [])),nS 9 ((some ⟨gO,a,[[1]]⟩)::oA mc b::nS 6 (oA gO c::nS 105 []))⟩
def zg5(a:cu)(b:dV)(c:cu):State:=⟨uS 8 (pA 9 gO::pA 10 mc::uS 6 (pA 17 gO::uS 105 [])),nS 9 ((some ⟨gO,a,[[1]]⟩)::oA mc b::nS 6 (oA gO c::nS 105 []))⟩
def zym:KX R:=(zl 2 (sk Kb tc kk kx 511 (fk Kb kx none K)))
theorem alZ a b c d e f g h i:YN R kk (k+1) J a b c d e f g h i=
 zyn a b c d e f g h i (YN R kk k J) (λa0 a1 a2 a3 a4 a5=>J (.exit 0) (zg3 a0 a1 a2 a3 a4 a5)):=by kernel_rfl
theorem afU a b c d e f:Rz R kk K (.exit 0) (zg3 a b c d e f)=
 YQ a b c d e f (YO R kk kk (zym R kk K)):=by kernel_rfl
theorem al0 a b c d e f g h:YO R kk (k+1) J a b c d e f g h=
 zyo a b c d e f g h (λa0 a1 a2=>J .ret (zg4 a0 a1 a2)) (YO R kk k J) (λa0 a1 a2=>J (.exit 2) (zg5 a0 a1 a2)):=by kernel_rfl
theorem afV a b c:zym R kk K .ret (zg4 a b c)=
 zyp a b c (λa0 a1=>K [.b8 gO a0 [],.b8 mc a1 []] none):=by kernel_rfl
theorem afW a b c:zym R kk K (.exit 2) (zg5 a b c)=
 zyq a b c (λa0 a1=>K [.b8 gO a0 [],.b8 mc a1 []] none):=by kernel_rfl
theorem ai2{kk:Nat}(hF:kk=bE) a b c d f g h i j:YN R kk k J a b c d f g h i j=(TV k a b c d f g h i j).bind λe=>J (.exit 0) (zg3 e.1 e.2.1 e.2.2.1 e.2.2.2.1 e.2.2.2.2.1 e.2.2.2.2.2):=by
 induction k generalizing a b c d f g h i j with
 |zero=>rfl
 |succ k ih=>rw[alZ];simp only[TV,zyn,ih,cP]
theorem ai3{kk:Nat}(hF:kk=bE) a b c d f g h i:YO R kk k J a b c d f g h i=(TW k a b c d f g h i).bind λe=>(aA (λ(we:yS)=>J .ret (zg4 we.1 we.2.1 we.2.2)) (λ(we:yS)=>J (.exit 2) (zg5 we.1 we.2.1 we.2.2)) e):=by
 induction k generalizing a b c d f g h i with
 |zero=>rfl
 |succ k ih=>rw[al0];simp only[TW,zyo,ih,cP]
def FA:bu:=tc.add 74 [lA,cZ,cZ,gO] (Vf lA cZ cZ gO yN (λ_ r K=>K [.b8 gO r.1 [],.b8 mc r.2 []] none))
theorem aaZ:dt aj gt FA:=st4 Kb (λR kk x0 x1 x2 x3 K=>YP x0 x1 x2 x3 (λa0 a1=>K [.b8 gO a0 [],.b8 mc a1 []] none) (YN R kk kk (Rz R kk K))) aaY ((ei.dr _).ro _) Tryz.func74 (λR kk e x0 x1 x2 x3 K=>by simp only[yN,YP,YQ,zyp,zyq,ai2 (hF:=e),ai3 (hF:=e),afU,afV,afW,cP,<-e])
def anr:Env:={e0 [nE,y1,.str] with fr:=λi=>bif ak i 5 then [12,4] else []}
def FB:bu:=FA.add 32 [nE,y1,.str] (sG nE y1 .str wu Ep)
theorem aa0:dt aj gt FB:=sX anr (λR kk x0 x1 x2 K=>XU x0 x1 x2 (λa0 a1=>K [tI a0,tS a1] none)) aaZ (ei.fr _) Tryz.func32 (λR kk e x0 x1 x2 K=>by simp only[Ep,wu,XU,cP])
def xO:bu:=FB.add 8 [] (KJ rG ew)
theorem aa1:dt aj gt xO:=OD Iq (λR kk K=>zwi (λa0=>K [tB a0] none)) aa0 ei Tryz.func8 (λR kk e K=>by simp only[ew,rG,zwi,cP])
def Zn:Env:=jo.env (kp [(4,[1,3])]) (kp [(4,[2])]) [] [jG]
def WV(a:Int)(b:ct):ae R:=lq Zn xO kk Tryz.f34 116 k J ⟨uS 1 (pA 2 jG::uS 1 (iA a::uS 32 [])),nS 2 (oA jG b::nS 34 [])⟩
def zee(a:Bool):State:=⟨uS 2 (bA a::uS 33 []),nS 37 []⟩
def zef:State:=⟨uS 36 [],nS 37 []⟩
def zvy:KX R:=(zl 0 (sk Zn xO kk Tryz.f34 15 (fk Zn Tryz.f34 none K)))
theorem aln a b:WV R kk (k+1) J a b=
 zvz a b (λa0=>J .ret (zee a0)) (WV R kk k J) (J (.exit 0) (zef)):=by kernel_rfl
theorem aeZ a:zvy R kk K .ret (zee a)=
 zw0 a (λa0=>K [tB a0] none):=by kernel_rfl
theorem ae0:zvy R kk K (.exit 0) (zef)=
 zw1 (λa0=>K [tB a0] none):=by kernel_rfl
theorem aip{kk:Nat}(hF:kk=bE) a b:WV R kk k J a b=(Tw k a b).bind λe=>(aA (λ(we:Bool)=>J .ret (zee we)) (λ(we:Unit)=>J (.exit 0) (zef)) e):=by
 induction k generalizing a b with
 |zero=>rfl
 |succ k ih=>rw[aln];simp only[Tw,zvz,ih,cP]
def xP:bu:=xO.add 34 [jG] (kY jG uG ew)
theorem aa2:dt aj gt xP:=lv Zn (λR kk x0 K=>WW x0 (λa0=>K [tB a0] none) (WV R kk kk (zvy R kk K))) aa1 ei Tryz.func34 (λR kk e x0 K=>by simp only[ew,uG,WW,zw0,zw1,aip (hF:=e),aeZ,ae0,cP,<-e])
def Zl:Env:=jo.env (kp [(4,[1,3])]) (kp [(4,[2])]) [] [lg]
def WA(a:Int)(b:dg):ae R:=lq Zl xP kk Tryz.f79 116 k J ⟨uS 1 (pA 2 lg::uS 1 (iA a::uS 35 [])),nS 2 (oA lg b::nS 37 [])⟩
def zdz(a:Bool):State:=⟨uS 2 (bA a::uS 36 []),nS 40 []⟩
def ze0:State:=⟨uS 39 [],nS 40 []⟩
def zve:KX R:=(zl 0 (sk Zl xP kk Tryz.f79 15 (fk Zl Tryz.f79 none K)))
theorem ale a b:WA R kk (k+1) J a b=
 Tn a b (λa0=>J .ret (zdz a0)) (WA R kk k J) (J (.exit 0) (ze0)):=by kernel_rfl
theorem aeJ a:zve R kk K .ret (zdz a)=
 zvf a (λa0=>K [tB a0] none):=by kernel_rfl
theorem aeK:zve R kk K (.exit 0) (ze0)=
 zvg (λa0=>K [tB a0] none):=by kernel_rfl
theorem aih{kk:Nat}(hF:kk=bE) a b:WA R kk k J a b=(ES k a b).bind λe=>(aA (λ(we:Bool)=>J .ret (zdz we)) (λ(we:Unit)=>J (.exit 0) (ze0)) e):=by
 induction k generalizing a b with
 |zero=>rfl
 |succ k ih=>rw[ale];simp only[ES,Tn,ih,cP]
def td:bu:=xP.add 79 [lg] (kY lg wh ew)
theorem aa3:dt aj gt td:=lv Zl (λR kk x0 K=>WB x0 (λa0=>K [tB a0] none) (WA R kk kk (zve R kk K))) aa2 ei Tryz.func79 (λR kk e x0 K=>by simp only[ew,wh,WB,zvf,zvg,aih (hF:=e),aeJ,aeK,cP,<-e])
def J5:Env:=jo.env (kp [(4,[1,3]),(9,[1,4])]) (kp [(4,[1,2]),(9,[2])]) [] [lA]
def WJ(a:Int)(b:c9):ae R:=lq J5 td kk kv 116 k J ⟨uS 1 (pA 2 lA::uS 1 (iA a::uS 49 [])),nS 2 (oA lA b::nS 51 [])⟩
def ze6(a:Bool)(b:c9):State:=⟨uS 1 (pA 2 lA::bA a::uS 50 []),nS 2 (oA lA b::nS 51 [])⟩
def ze7(a:c9):State:=⟨uS 1 (pA 2 lA::uS 51 []),nS 2 (oA lA a::nS 51 [])⟩
def zvo:KX R:=(zl 0 (sk J5 td kk kv 15 (fk J5 kv none K)))
def WK(a:Int)(b:c9):ae R:=lq J5 td kk kv 244 k J ⟨uS 1 (pA 2 lA::uS 2 (iA a::uS 48 [])),nS 2 (oA lA b::nS 51 [])⟩
def ze8(a:Bool):State:=⟨uS 2 (bA a::uS 50 []),nS 54 []⟩
def ze9:State:=⟨uS 53 [],nS 54 []⟩
def zvp:KX R:=(zl 2 (sk J5 td kk kv 31 (fk J5 kv none K)))
theorem ali a b:WJ R kk (k+1) J a b=
 Tt a b (λa0 a1=>J .ret (ze6 a0 a1)) (WJ R kk k J) (λa0=>J (.exit 0) (ze7 a0)):=by kernel_rfl
theorem aeR a b:zvo R kk K .ret (ze6 a b)=
 zvq a b (λa0=>K [tB a0] none):=by kernel_rfl
theorem aeS a:zvo R kk K (.exit 0) (ze7 a)=
 WM a (WK R kk kk (zvp R kk K)):=by kernel_rfl
theorem alj a b:WK R kk (k+1) J a b=
 zvr a b (λa0=>J .ret (ze8 a0)) (WK R kk k J) (J (.exit 2) (ze9)):=by kernel_rfl
theorem aeT a:zvp R kk K .ret (ze8 a)=
 zvs a (λa0=>K [tB a0] none):=by kernel_rfl
theorem aeU:zvp R kk K (.exit 2) (ze9)=
 zvt (λa0=>K [tB a0] none):=by kernel_rfl
theorem ail{kk:Nat}(hF:kk=bE) a b:WJ R kk k J a b=(ET k a b).bind λe=>(aA (λ(we:(Bool×c9))=>J .ret (ze6 we.1 we.2)) (λ(we:c9)=>J (.exit 0) (ze7 we)) e):=by
 induction k generalizing a b with
 |zero=>rfl
 |succ k ih=>rw[ali];simp only[ET,Tt,ih,cP]
theorem aim{kk:Nat}(hF:kk=bE) a b:WK R kk k J a b=(Ts k a b).bind λe=>(aA (λ(we:Bool)=>J .ret (ze8 we)) (λ(we:Unit)=>J (.exit 2) (ze9)) e):=by
 induction k generalizing a b with
 |zero=>rfl
 |succ k ih=>rw[alj];simp only[Ts,zvr,ih,cP]
def FC:bu:=td.add 35 [lA] (kY lA tP ew)
theorem aa4:dt aj gt FC:=lv J5 (λR kk x0 K=>WL x0 (λa0=>K [tB a0] none) (WJ R kk kk (zvo R kk K))) aa3 ei Tryz.func35 (λR kk e x0 K=>by simp only[ew,tP,WL,zvq,WM,zvs,zvt,ail (hF:=e),aim (hF:=e),aeR,aeS,aeT,aeU,cP,<-e])
def Sb:Env:=e0 [nE]
def FD:bu:=FC.add 9 [nE] (kY nE yE ew)
theorem aa5:dt aj gt FD:=lv Sb (λR kk x0 K=>W3 x0 (λa0=>K [tB a0] none)) aa4 ei Tryz.func9 (λR kk e x0 K=>by simp only[ew,yE,W3,cP])
def xQ:bu:=FD.add 171 [kP] (kY kP Fv gk)
theorem aa6:dt aj gt xQ:=lv IC (λR kk x0 K=>zsz x0 (λa0=>K [tI a0] none)) aa5 ei Tryz.func171 (λR kk e x0 K=>by simp only[gk,Fv,zsz,cP])
def xH:Env:=jo.env (kp [(7,[1,4,5])]) (kp [(7,[2,3])]) [] [cZ]
def zt0(a b:Int)(c:bm):ae R:=lq xH xQ kk Tryz.f170 500 k J ⟨uS 1 (pA 2 cZ::uS 2 (iA a::iA b::uS 49 [])),nS 2 (oA cZ c::nS 53 [])⟩
def zp1(a b:Int):State:=⟨uS 2 (iA a::iA b::uS 51 []),nS 56 []⟩
def zp2:State:=⟨uS 55 [],nS 56 []⟩
def z145:KX R:=(zl 0 (sk xH xQ kk Tryz.f170 63 (fk xH Tryz.f170 none K)))
theorem anX a b c:zt0 R kk (k+1) J a b c=
 Uu a b c (λa0 a1=>J .ret (zp1 a0 a1)) (zt0 R kk k J) (J (.exit 0) (zp2)):=by kernel_rfl
theorem ajt a b:z145 R kk K .ret (zp1 a b)=
 zt1 a b (λa0 a1=>K [tI a0,tI a1] none):=by kernel_rfl
theorem aju:z145 R kk K (.exit 0) (zp2)=
 zt2 (λa0 a1=>K [tI a0,tI a1] none):=by kernel_rfl
theorem aml{kk:Nat}(hF:kk=bE) a b c:zt0 R kk k J a b c=(EY k a b c).bind λe=>(aA (λ(we:(Int×Int))=>J .ret (zp1 we.1 we.2)) (λ(we:Unit)=>J (.exit 0) (zp2)) e):=by
 induction k generalizing a b c with
 |zero=>rfl
 |succ k ih=>rw[anX];simp only[EY,Uu,ih,cP]
def FE:bu:=xQ.add 170 [cZ] (kY cZ Mc vr)
theorem aa7:dt aj gt FE:=lv xH (λR kk x0 K=>Lw x0 (λa0 a1=>K [tI a0,tI a1] none) (λa0 a1 a2=>zt0 R kk kk (z145 R kk K) a0 a1 a2)) aa6 ei Tryz.func170 (λR kk e x0 K=>by simp only[vr,Mc,acM,zt1,zt2,aml (hF:=e),ajt,aju,cP,<-e])
def anc:Env:=e0 [cZ]
def xR:bu:=FE.add 129 [cZ] (kY cZ wg ew)
theorem aa8:dt aj gt xR:=lv anc (λR kk x0 K=>Wl x0 (λa0=>K [tB a0] none)) aa7 ei Tryz.func129 (λR kk e x0 K=>by simp only[ew,wg,Wl,cP])
def xI:Env:=jo.env (kp [(2,[1,2,5])]) (kp [(2,[4])]) [] [cZ,y1]
def zt3(a b:Int)(c:bm):ae R:=lq xI xR kk Tryz.f130 52 k J ⟨uS 1 (iA a::pA 3 cZ::uS 2 (iA b::uS 16 [])),nS 3 (oA cZ c::nS 19 [])⟩
def zp3(a:Int):State:=⟨uS 4 (iA a::uS 17 []),nS 23 []⟩
def zp4:State:=⟨uS 22 [],nS 23 []⟩
def Jc:KX R:=(zl 0 (sk xI xR kk Tryz.f130 7 (fk xI Tryz.f130 none K)))
theorem anY a b c:zt3 R kk (k+1) J a b c=
 Jd a b c (λa0=>J .ret (zp3 a0)) (zt3 R kk k J) (J (.exit 0) (zp4)):=by kernel_rfl
theorem ajv a:Jc R kk K .ret (zp3 a)=
 Je a (λa0=>K [tI a0] none):=by kernel_rfl
theorem ajw:Jc R kk K (.exit 0) (zp4)=
 Jf (λa0=>K [tI a0] none):=by kernel_rfl
theorem amm{kk:Nat}(hF:kk=bE) a b c:zt3 R kk k J a b c=(Uv k a b c).bind λe=>(aA (λ(we:Int)=>J .ret (zp3 we)) (λ(we:Unit)=>J (.exit 0) (zp4)) e):=by
 induction k generalizing a b c with
 |zero=>rfl
 |succ k ih=>rw[anY];simp only[Uv,Jd,ih,cP]
def xS:bu:=xR.add 130 [cZ,y1] (mr cZ y1 Fw gk)
theorem aa9:dt aj gt xS:=mE xI (λR kk x0 x1 K=>zt4 x0 x1 (zt3 R kk kk (Jc R kk K))) aa8 ei Tryz.func130 (λR kk e x0 x1 K=>by simp only[gk,Fw,zt4,Je,Jf,amm (hF:=e),ajv,ajw,cP,<-e])
def xx:Env:=jo.env (kp [(2,[0,1,5])]) (kp [(2,[4])]) [] [y7,y1]
def zsu(a:(List Int))(b c:Int):ae R:=lq xx xS kk Tryz.f131 52 k J ⟨dA y7 a::iA b::uS 3 (iA c::uS 12 []),nS 19 []⟩
def zov(a:Bool):State:=⟨uS 4 (bA a::uS 13 []),nS 19 []⟩
def zow:State:=⟨uS 18 [],nS 19 []⟩
def I4:KX R:=(zl 0 (sk xx xS kk Tryz.f131 7 (fk xx Tryz.f131 none K)))
theorem anS a b c:zsu R kk (k+1) J a b c=
 Uo a b c (λa0=>J .ret (zov a0)) (zsu R kk k J) (J (.exit 0) (zow)):=by kernel_rfl
theorem ajn a:I4 R kk K .ret (zov a)=
 I5 a (λa0=>K [tB a0] none):=by kernel_rfl
theorem ajo:I4 R kk K (.exit 0) (zow)=
 I6 (λa0=>K [tB a0] none):=by kernel_rfl
theorem amg{kk:Nat}(hF:kk=bE) a b c:zsu R kk k J a b c=(z93 k a b c).bind λe=>(aA (λ(we:Bool)=>J .ret (zov we)) (λ(we:Unit)=>J (.exit 0) (zow)) e):=by
 induction k generalizing a b c with
 |zero=>rfl
 |succ k ih=>rw[anS];simp only[z93,Uo,ih,cP]
def xT:bu:=xS.add 131 [y7,y1] (mr y7 y1 L8 ew)
theorem abb:dt aj gt xT:=mE xx (λR kk x0 x1 K=>zsv x0 x1 (zsu R kk kk (I4 R kk K))) aa9 ei Tryz.func131 (λR kk e x0 x1 K=>by simp only[ew,L8,zsv,I5,I6,amg (hF:=e),ajn,ajo,cP,<-e])
def Zo:Env:=jo.env (kp [(2,[0,1,2,7])]) (kp [(2,[6])]) [] [vH,y1,y1]
def WX(a:cQ)(b c d:Int):ae R:=lq Zo xT kk Tryz.f132 52 k J ⟨dA vH a::iA b::iA c::uS 4 (iA d::uS 13 []),nS 22 []⟩
def zeg(a:Int):State:=⟨uS 6 (iA a::uS 14 []),nS 22 []⟩
def zeh:State:=⟨uS 21 [],nS 22 []⟩
def zw2:KX R:=(zl 0 (sk Zo xT kk Tryz.f132 7 (fk Zo Tryz.f132 none K)))
theorem alo a b c d:WX R kk (k+1) J a b c d=
 Tx a b c d (λa0=>J .ret (zeg a0)) (WX R kk k J) (J (.exit 0) (zeh)):=by kernel_rfl
theorem ae1 a:zw2 R kk K .ret (zeg a)=
 zw3 a (λa0=>K [tI a0] none):=by kernel_rfl
theorem ae2:zw2 R kk K (.exit 0) (zeh)=
 zw4 (λa0=>K [tI a0] none):=by kernel_rfl
theorem aiq{kk:Nat}(hF:kk=bE) a b c d:WX R kk k J a b c d=(JS k a b c d).bind λe=>(aA (λ(we:Int)=>J .ret (zeg we)) (λ(we:Unit)=>J (.exit 0) (zeh)) e):=by
 induction k generalizing a b c d with
 |zero=>rfl
 |succ k ih=>rw[alo];simp only[JS,Tx,ih,cP]
def FF:bu:=xT.add 132 [vH,y1,y1] (sG vH y1 y1 yD gk)
theorem abd:dt aj gt FF:=sX Zo (λR kk x0 x1 x2 K=>WY x0 x1 x2 (WX R kk kk (zw2 R kk K))) abb ei Tryz.func132 (λR kk e x0 x1 x2 K=>by simp only[gk,yD,WY,zw3,zw4,aiq (hF:=e),ae1,ae2,cP,<-e])
def L7:Env:=e0 [y1,y0]
def xU:bu:=FF.add 199 [y1,y0] (mr y1 y0 Fm ew)
theorem abe:dt aj gt xU:=mE L7 (λR kk x0 x1 K=>zsq x0 x1 (λa0=>K [tB a0] none)) abd ei Tryz.func199 (λR kk e x0 x1 K=>by simp only[ew,Fm,zsq,cP])
def xv:Env:=jo.env (kp [(2,[0,1,5])]) (kp [(2,[4])]) [] [y1,.str]
def zso(a:Int)(b:af)(c:Int):ae R:=lq xv xU kk Tryz.f172 52 k J ⟨iA a::sA b::uS 3 (iA c::uS 13 []),nS 20 []⟩
def zor(a:Int):State:=⟨uS 4 (iA a::uS 14 []),nS 20 []⟩
def zos:State:=⟨uS 19 [],nS 20 []⟩
def IX:KX R:=(zl 0 (sk xv xU kk Tryz.f172 7 (fk xv Tryz.f172 none K)))
theorem anQ a b c:zso R kk (k+1) J a b c=
 Un a b c (λa0=>J .ret (zor a0)) (zso R kk k J) (J (.exit 0) (zos)):=by kernel_rfl
theorem ajj a:IX R kk K .ret (zor a)=
 IY a (λa0=>K [tI a0] none):=by kernel_rfl
theorem ajk:IX R kk K (.exit 0) (zos)=
 IZ (λa0=>K [tI a0] none):=by kernel_rfl
theorem ame{kk:Nat}(hF:kk=bE) a b c:zso R kk k J a b c=(Ke k a b c).bind λe=>(aA (λ(we:Int)=>J .ret (zor we)) (λ(we:Unit)=>J (.exit 0) (zos)) e):=by
 induction k generalizing a b c with
 |zero=>rfl
 |succ k ih=>rw[anQ];simp only[Ke,Un,ih,cP]
def FG:bu:=xU.add 172 [y1,.str] (mr y1 .str L6 gk)
theorem abf:dt aj gt FG:=mE xv (λR kk x0 x1 K=>zsp x0 x1 (zso R kk kk (IX R kk K))) abe ei Tryz.func172 (λR kk e x0 x1 K=>by simp only[gk,L6,zsp,IY,IZ,ame (hF:=e),ajj,ajk,cP,<-e])
def FH:bu:=FG.add 238 [y0] (kY y0 Fp gk)
theorem abg:dt aj gt FH:=lv xa (λR kk x0 K=>I7 x0 (λa0=>K [tI a0] none)) abf ei Tryz.func238 (λR kk e x0 K=>by simp only[gk,Fp,I7,cP])
def FI:bu:=FH.add 200 [.str,y1] (mr .str y1 Fq m4)
theorem abh:dt aj gt FI:=mE Ug (λR kk x0 x1 K=>Up x0 x1 (λa0 a1 a2=>K [tI a0,tI a1,tI a2] none)) abg ei Tryz.func200 (λR kk e x0 x1 K=>by simp only[m4,Fq,Up,cP])
def xV:bu:=FI.add 201 [.str,y1] (mr .str y1 Fs m4)
theorem abj:dt aj gt xV:=mE Ug (λR kk x0 x1 K=>Uq x0 x1 (λa0 a1 a2=>K [tI a0,tI a1,tI a2] none)) abh ei Tryz.func201 (λR kk e x0 x1 K=>by simp only[m4,Fs,Uq,cP])
def xG:Env:=jo.env (kp [(2,[0,1,2,7])]) (kp [(2,[6])]) [] [uu,y1,y1]
def zsx(a:cQ)(b c d:Int):ae R:=lq xG xV kk Tryz.f202 52 k J ⟨dA uu a::iA b::iA c::uS 4 (iA d::uS 12 []),nS 21 []⟩
def zoz(a:Bool):State:=⟨uS 6 (bA a::uS 13 []),nS 21 []⟩
def zp0:State:=⟨uS 20 [],nS 21 []⟩
def Ja:KX R:=(zl 0 (sk xG xV kk Tryz.f202 7 (fk xG Tryz.f202 none K)))
end
end Go.Proofs.YtodeabafemckjaaGreatDoor

namespace Go.Proofs.YtodeabafemckjaaGreatDoor
noncomputable section
open Go Go.Ref eL
variable (R:Type) (kk k:Nat) (K:KF R) (J:KX R)
theorem anW a b c d:zsx R kk (k+1) J a b c d=
 Ut a b c d (λa0=>J .ret (zoz a0)) (zsx R kk k J) (J (.exit 0) (zp0)):=by kernel_rfl
theorem ajr a:Ja R kk K .ret (zoz a)=
 z143 a (λa0=>K [tB a0] none):=by kernel_rfl
theorem ajs:Ja R kk K (.exit 0) (zp0)=
 Jb (λa0=>K [tB a0] none):=by kernel_rfl
theorem amk{kk:Nat}(hF:kk=bE) a b c d:zsx R kk k J a b c d=(Kf k a b c d).bind λe=>(aA (λ(we:Bool)=>J .ret (zoz we)) (λ(we:Unit)=>J (.exit 0) (zp0)) e):=by
 induction k generalizing a b c d with
 |zero=>rfl
 |succ k ih=>rw[anW];simp only[Kf,Ut,ih,cP]
def xW:bu:=xV.add 202 [uu,y1,y1] (sG uu y1 y1 Mb ew)
theorem abk:dt aj gt xW:=sX xG (λR kk x0 x1 x2 K=>zsy x0 x1 x2 (zsx R kk kk (Ja R kk K))) abj ei Tryz.func202 (λR kk e x0 x1 x2 K=>by simp only[ew,Mb,zsy,z143,Jb,amk (hF:=e),ajr,ajs,cP,<-e])
def xC:Env:=jo.env (kp [(3,[0,5,6])]) (kp [(3,[2,3,4,5])]) [] [.str]
def zsw(a:af)(b:cQ)(c:Int):ae R:=lq xC xW kk Tryz.f173 120 k J ⟨sA a::uS 4 (dB uu b::iA c::uS 61 []),nS 69 []⟩
def zox(a:cQ)(b c:Int)(d:cQ):State:=⟨uS 2 (dB uu a::iA b::iA c::dB uu d::uS 62 []),nS 69 []⟩
def zoy(a:cQ):State:=⟨uS 5 (dB uu a::uS 62 []),nS 69 []⟩
def I8:KX R:=(zl 0 (sk xC xW kk Tryz.f173 31 (fk xC Tryz.f173 none K)))
theorem anU a b c:zsw R kk (k+1) J a b c=
 Us a b c (λa0 a1 a2 a3=>J .ret (zox a0 a1 a2 a3)) (zsw R kk k J) (λa0=>J (.exit 0) (zoy a0)):=by kernel_rfl
theorem ajp a b c d:I8 R kk K .ret (zox a b c d)=
 I9 a b c d (λa0 a1 a2=>K [.b8 uu a0 [[]],tI a1,tI a2] none):=by kernel_rfl
theorem ajq a:I8 R kk K (.exit 0) (zoy a)=
 z141 a (λa0 a1 a2=>K [.b8 uu a0 [],tI a1,tI a2] none):=by kernel_rfl
theorem ami{kk:Nat}(hF:kk=bE) a b c:zsw R kk k J a b c=(Hm k a b c).bind λe=>(aA (λ(we:yR)=>J .ret (zox we.1 we.2.1 we.2.2.1 we.2.2.2)) (λ(we:cQ)=>J (.exit 0) (zoy we)) e):=by
 induction k generalizing a b c with
 |zero=>rfl
 |succ k ih=>rw[anU];simp only[Hm,Us,ih,cP]
def FJ:bu:=xW.add 173 [.str] (kY .str Ft Es)
theorem abl:dt aj gt FJ:=lv xC (λR kk x0 K=>Ur x0 (zsw R kk kk (I8 R kk K))) abk ei Tryz.func173 (λR kk e x0 K=>by simp only[Es,Ft,Ur,I9,z141,ami (hF:=e),ajp,ajq,cP,<-e]) (ho:=λ_ _ _ _ _ _ h=>Zc (λ_=>h _ _) (λ_=>h _ _))
def te:bu:=FJ.add 133 [kP,.str] (mr kP .str uO gk)
theorem abm:dt aj gt te:=mE Se (λR kk x0 x1 K=>Lu x0 x1 (λa0=>K [tI a0] none)) abl ei Tryz.func133 (λR kk e x0 x1 K=>by simp only[gk,uO,Lu,cP])
def J6:Env:=jo.env (kp [(7,[1,5,6]),(16,[1,5,7])]) (kp [(7,[1,2,3,4,5]),(16,[1,2,3,4])]) [] [jG]
def WQ(a b:Int)(c:ct):ae R:=lq J6 te kk ky 500 k J ⟨uS 1 (pA 2 jG::uS 3 (iA a::iA b::uS 109 [])),nS 2 (oA jG c::nS 114 [])⟩
def zea(a b c d:Int)(e:ct):State:=⟨uS 1 (pA 2 jG::iA a::iA b::iA c::iA d::uS 110 []),nS 2 (oA jG e::nS 114 [])⟩
def zeb(a:Int)(b:ct):State:=⟨uS 1 (pA 2 jG::uS 3 (iA a::uS 110 [])),nS 2 (oA jG b::nS 114 [])⟩
def zvu:KX R:=(zl 0 (sk J6 te kk ky 63 (fk J6 ky none K)))
def WR(a b:Int)(c:ct):ae R:=lq J6 te kk ky 1012 k J ⟨uS 1 (pA 2 jG::uS 3 (iA a::uS 1 (iA b::uS 108 []))),nS 2 (oA jG c::nS 114 [])⟩
def zec(a b c:Int)(d:ct):State:=⟨uS 1 (pA 2 jG::iA a::iA b::iA c::uS 111 []),nS 2 (oA jG d::nS 114 [])⟩
def zed(a:ct):State:=⟨uS 1 (pA 2 jG::uS 114 []),nS 2 (oA jG a::nS 114 [])⟩
def zvv:KX R:=(zl 2 (sk J6 te kk ky 127 (fk J6 ky none K)))
theorem alk a b c:WQ R kk (k+1) J a b c=
 Tu a b c (λa0 a1 a2 a3 a4=>J .ret (zea a0 a1 a2 a3 a4)) (WQ R kk k J) (λa0 a1=>J (.exit 0) (zeb a0 a1)):=by kernel_rfl
theorem aeV a b c d e:zvu R kk K .ret (zea a b c d e)=
 zvw a b c d e (λa0 a1 a2=>K [tI a0,tI a1,tI a2] none):=by kernel_rfl
theorem aeW a b:zvu R kk K (.exit 0) (zeb a b)=
 WT a b (WR R kk kk (zvv R kk K)):=by kernel_rfl
theorem alm a b c:WR R kk (k+1) J a b c=
 Tv a b c (λa0 a1 a2 a3=>J .ret (zec a0 a1 a2 a3)) (WR R kk k J) (λa0=>J (.exit 2) (zed a0)):=by kernel_rfl
theorem aeX a b c d:zvv R kk K .ret (zec a b c d)=
 zvx a b c d (λa0 a1 a2=>K [tI a0,tI a1,tI a2] none):=by kernel_rfl
theorem aeY a:zvv R kk K (.exit 2) (zed a)=
 WU a (λa0 a1 a2=>K [tI a0,tI a1,tI a2] none):=by kernel_rfl
theorem ain{kk:Nat}(hF:kk=bE) a b c:WQ R kk k J a b c=(JQ k a b c).bind λe=>(aA (λ(we:(Int×Int×Int×Int×ct))=>J .ret (zea we.1 we.2.1 we.2.2.1 we.2.2.2.1 we.2.2.2.2)) (λ(we:(Int×ct))=>J (.exit 0) (zeb we.1 we.2)) e):=by
 induction k generalizing a b c with
 |zero=>rfl
 |succ k ih=>rw[alk];simp only[JQ,Tu,ih,cP]
theorem aio{kk:Nat}(hF:kk=bE) a b c:WR R kk k J a b c=(JR k a b c).bind λe=>(aA (λ(we:(Int×Int×Int×ct))=>J .ret (zec we.1 we.2.1 we.2.2.1 we.2.2.2)) (λ(we:ct)=>J (.exit 2) (zed we)) e):=by
 induction k generalizing a b c with
 |zero=>rfl
 |succ k ih=>rw[alm];simp only[JR,Tv,ih,cP]
def FK:bu:=te.add 80 [jG] (kY jG AQ m4)
theorem abn:dt aj gt FK:=lv J6 (λR kk x0 K=>WS x0 (λa0 a1 a2=>K [tI a0,tI a1,tI a2] none) (WQ R kk kk (zvu R kk K))) abm ei Tryz.func80 (λR kk e x0 K=>by simp only[m4,AQ,WS,zvw,WT,zvx,WU,ain (hF:=e),aio (hF:=e),aeV,aeW,aeX,aeY,cP,<-e])
def xX:bu:=FK.add 239 [y0] (kY y0 L4 ew)
theorem abo:dt aj gt xX:=lv xa (λR kk x0 K=>zsk x0 (λa0=>K [tB a0] none)) abn ei Tryz.func239 (λR kk e x0 K=>by simp only[ew,L4,zsk,cP])
def xr:Env:=jo.env (kp [(2,[0,3])]) (kp [(2,[2])]) [] [.str]
def zsh(a:af)(b:Int):ae R:=lq xr xX kk Tryz.f203 52 k J ⟨sA a::uS 2 (iA b::uS 11 []),nS 16 []⟩
def zoo(a:Bool):State:=⟨uS 2 (bA a::uS 12 []),nS 16 []⟩
def zop:State:=⟨uS 15 [],nS 16 []⟩
def IQ:KX R:=(zl 0 (sk xr xX kk Tryz.f203 7 (fk xr Tryz.f203 none K)))
theorem anO a b:zsh R kk (k+1) J a b=
 zsj a b (λa0=>J .ret (zoo a0)) (zsh R kk k J) (J (.exit 0) (zop)):=by kernel_rfl
theorem ajg a:IQ R kk K .ret (zoo a)=
 IU a (λa0=>K [tB a0] none):=by kernel_rfl
theorem ajh:IQ R kk K (.exit 0) (zop)=
 IV (λa0=>K [tB a0] none):=by kernel_rfl
theorem amc{kk:Nat}(hF:kk=bE) a b:zsh R kk k J a b=(Ls k a b).bind λe=>(aA (λ(we:Bool)=>J .ret (zoo we)) (λ(we:Unit)=>J (.exit 0) (zop)) e):=by
 induction k generalizing a b with
 |zero=>rfl
 |succ k ih=>rw[anO];simp only[Ls,zsj,ih,cP]
def FL:bu:=xX.add 203 [.str] (kY .str Ko ew)
theorem abp:dt aj gt FL:=lv xr (λR kk x0 K=>zsi x0 (zsh R kk kk (IQ R kk K))) abo ei Tryz.func203 (λR kk e x0 K=>by simp only[ew,Ko,zsi,IU,IV,amc (hF:=e),ajg,ajh,cP,<-e])
def FM:bu:=FL.add 174 [.str] (kY .str AJ ew)
theorem abq:dt aj gt FM:=lv J8 (λR kk x0 K=>Wp x0 (λa0=>K [tB a0] none)) abp ei Tryz.func174 (λR kk e x0 K=>by simp only[ew,AJ,Wp,cP])
def xY:bu:=FM.add 134 [.str,y1] (mr .str y1 yC ew)
theorem abr:dt aj gt xY:=mE Ug (λR kk x0 x1 K=>WO x0 x1 (λa0=>K [tB a0] none)) abq ei Tryz.func134 (λR kk e x0 x1 K=>by simp only[ew,yC,WO,cP])
def xt:Env:=jo.env (kp [(5,[0,4,5])]) (kp [(5,[4])]) [] [.str]
def zsl(a:af)(b c:Int):ae R:=lq xt xY kk Tryz.f175 244 k J ⟨sA a::uS 3 (iA b::iA c::uS 28 []),nS 35 []⟩
def zoq(a:Int):State:=⟨uS 4 (iA a::uS 29 []),nS 35 []⟩
def Sm:KX R:=(zl 0 (sk xt xY kk Tryz.f175 31 (fk xt Tryz.f175 none K)))
theorem anP a b c:zsl R kk (k+1) J a b c=
 zsn a b c (zsl R kk k J) (λa0=>J (.exit 0) (zoq a0)):=by kernel_rfl
theorem aji a:Sm R kk K (.exit 0) (zoq a)=
 IW a (λa0 a1=>K [tI a0,tB a1] none):=by kernel_rfl
theorem amd{kk:Nat}(hF:kk=bE) a b c:zsl R kk k J a b c=(Lt k a b c).bind λe=>J (.exit 0) (zoq e):=by
 induction k generalizing a b c with
 |zero=>rfl
 |succ k ih=>rw[anP];simp only[Lt,zsn,ih,cP]
def FN:bu:=xY.add 175 [.str] (kY .str L5 vq)
theorem abt:dt aj gt FN:=lv xt (λR kk x0 K=>zsm x0 (λa0 a1=>K [tI a0,tB a1] none) (zsl R kk kk (Sm R kk K))) abr ei Tryz.func175 (λR kk e x0 K=>by simp only[vq,L5,zsm,IW,amd (hF:=e),aji,cP,<-e])
def xZ:bu:=FN.add 135 [.str] (kY .str yA ew)
theorem abu:dt aj gt xZ:=lv J8 (λR kk x0 K=>Wo x0 (λa0=>K [tB a0] none)) abt ei Tryz.func135 (λR kk e x0 K=>by simp only[ew,yA,Wo,cP])
def Zj:Env:=jo.env (kp [(2,[0,1,2,7])]) (kp [(2,[6])]) [] [nL,y1,.str]
def Wv(a:dZ)(b:Int)(c:af)(d:Int):ae R:=lq Zj xZ kk Tryz.f176 52 k J ⟨dA nL a::iA b::sA c::uS 4 (iA d::uS 13 []),nS 22 []⟩
def zdw(a:Int):State:=⟨uS 6 (iA a::uS 14 []),nS 22 []⟩
def zdx:State:=⟨uS 21 [],nS 22 []⟩
def zv1:KX R:=(zl 0 (sk Zj xZ kk Tryz.f176 7 (fk Zj Tryz.f176 none K)))
theorem alc a b c d:Wv R kk (k+1) J a b c d=
 Tk a b c d (λa0=>J .ret (zdw a0)) (Wv R kk k J) (J (.exit 0) (zdx)):=by kernel_rfl
theorem aeA a:zv1 R kk K .ret (zdw a)=
 zv2 a (λa0=>K [tI a0] none):=by kernel_rfl
theorem aeB:zv1 R kk K (.exit 0) (zdx)=
 zv3 (λa0=>K [tI a0] none):=by kernel_rfl
theorem ah4{kk:Nat}(hF:kk=bE) a b c d:Wv R kk k J a b c d=(JL k a b c d).bind λe=>(aA (λ(we:Int)=>J .ret (zdw we)) (λ(we:Unit)=>J (.exit 0) (zdx)) e):=by
 induction k generalizing a b c d with
 |zero=>rfl
 |succ k ih=>rw[alc];simp only[JL,Tk,ih,cP]
def FO:bu:=xZ.add 176 [nL,y1,.str] (sG nL y1 .str yB gk)
theorem abv:dt aj gt FO:=sX Zj (λR kk x0 x1 x2 K=>zip x0 x1 x2 (Wv R kk kk (zv1 R kk K))) abu ei Tryz.func176 (λR kk e x0 x1 x2 K=>by simp only[gk,yB,zip,zv2,zv3,ah4 (hF:=e),aeA,aeB,cP,<-e])
def ane:Env:=e0 [nL,.str]
def x6:bu:=FO.add 136 [nL,.str] (mr nL .str AK nY)
theorem abw:dt aj gt x6:=mE ane (λR kk x0 x1 K=>Wq x0 x1 (λa0 a1=>K [tS a0,tB a1] none)) abv ei Tryz.func136 (λR kk e x0 x1 K=>by simp only[nY,AK,Wq,cP])
def xw:Env:=jo.env (kp [(4,[0,1,5])]) (kp [(4,[4])]) [] [y1,y1]
def zsr(a b c:Int):ae R:=lq xw x6 kk Tryz.f204 116 k J ⟨iA a::iA b::uS 3 (iA c::uS 29 []),nS 36 []⟩
def zot(a:Bool):State:=⟨uS 4 (bA a::uS 30 []),nS 36 []⟩
def zou:State:=⟨uS 35 [],nS 36 []⟩
def I0:KX R:=(zl 0 (sk xw x6 kk Tryz.f204 15 (fk xw Tryz.f204 none K)))
theorem anR a b c:zsr R kk (k+1) J a b c=
 I1 a b c (λa0=>J .ret (zot a0)) (zsr R kk k J) (J (.exit 0) (zou)):=by kernel_rfl
theorem ajl a:I0 R kk K .ret (zot a)=
 I2 a (λa0=>K [tB a0] none):=by kernel_rfl
theorem ajm:I0 R kk K (.exit 0) (zou)=
 I3 (λa0=>K [tB a0] none):=by kernel_rfl
theorem amf{kk:Nat}(hF:kk=bE) a b c:zsr R kk k J a b c=(zss k a b c).bind λe=>(aA (λ(we:Bool)=>J .ret (zot we)) (λ(we:Unit)=>J (.exit 0) (zou)) e):=by
 induction k generalizing a b c with
 |zero=>rfl
 |succ k ih=>rw[anR];simp only[zss,I1,ih,cP]
def FP:bu:=x6.add 204 [y1,y1] (mr y1 y1 Kp ew)
theorem abx:dt aj gt FP:=mE xw (λR kk x0 x1 K=>zst x0 x1 (λa0=>K [tB a0] none) (zsr R kk kk (I0 R kk K))) abw ei Tryz.func204 (λR kk e x0 x1 K=>by simp only[ew,Kp,zst,I2,I3,amf (hF:=e),ajl,ajm,cP,<-e])
def x7:bu:=FP.add 177 [kP,kP] (mr kP kP CD ew)
theorem aby:dt aj gt x7:=mE Sf (λR kk x0 x1 K=>Lv x0 x1 (λa0=>K [tB a0] none)) abx ei Tryz.func177 (λR kk e x0 x1 K=>by simp only[ew,CD,Lv,cP])
def Zh:Env:=jo.env (kp [(4,[0,4])]) (kp [(4,[2,3])]) [] [nL]
def Wr(a:dZ)(b:Int):ae R:=lq Zh x7 kk Tryz.f178 116 k J ⟨dA nL a::uS 3 (iA b::uS 19 []),nS 25 []⟩
def zdt(a b:Int):State:=⟨uS 2 (iA a::iA b::uS 20 []),nS 25 []⟩
def zdu:State:=⟨uS 24 [],nS 25 []⟩
def zuv:KX R:=(zl 0 (sk Zh x7 kk Tryz.f178 15 (fk Zh Tryz.f178 none K)))
theorem ala a b:Wr R kk (k+1) J a b=
 Tj a b (λa0 a1=>J .ret (zdt a0 a1)) (Wr R kk k J) (J (.exit 0) (zdu)):=by kernel_rfl
theorem aex a b:zuv R kk K .ret (zdt a b)=
 zuw a b (λa0 a1=>K [tI a0,tI a1] none):=by kernel_rfl
theorem aey:zuv R kk K (.exit 0) (zdu)=
 zux (λa0 a1=>K [tI a0,tI a1] none):=by kernel_rfl
theorem ah2{kk:Nat}(hF:kk=bE) a b:Wr R kk k J a b=(JK k a b).bind λe=>(aA (λ(we:(Int×Int))=>J .ret (zdt we.1 we.2)) (λ(we:Unit)=>J (.exit 0) (zdu)) e):=by
 induction k generalizing a b with
 |zero=>rfl
 |succ k ih=>rw[ala];simp only[JK,Tj,ih,cP]
def gT:bu:=x7.add 178 [nL] (kY nL AL vr)
theorem abz:dt aj gt gT:=lv Zh (λR kk x0 K=>Ws x0 (λa0 a1=>K [tI a0,tI a1] none) (Wr R kk kk (zuv R kk K))) aby ei Tryz.func178 (λR kk e x0 K=>by simp only[vr,AL,Ws,zuw,zux,ah2 (hF:=e),aex,aey,cP,<-e])
def zt:Env:={jo.env (kp [(27,[3,4,5,7,8,13])]) (kp [(27,[6])]) [] [lg,cZ,cZ] with join:=λi=>bif ak i 2 then some [3,4,5,23] else bif ak i 3 then some [3,4,5] else bif ak i 6 then some [3,4,5,7,8,48] else bif ak i 7 then some [3,4,5,7,8] else bif ak i 8 then some [3,4,5,7,8,65] else bif ak i 9 then some [3,4,5,7,8] else bif ak i 10 then some [3,4,5,7,8,84] else bif ak i 11 then some [3,4,5,7,8] else bif ak i 35 then some [] else bif ak i 21 then some [140] else bif ak i 25 then some [3,4,5,7,8,156] else bif ak i 26 then some [3,4,5,7,8] else bif ak i 29 then some [3,4,5,7,8,13] else bif ak i 32 then some [3,4,5,7,8,13] else bif ak i 28 then some [3,4,5,7,8,13] else none}
def Rg(a:Bool)(b:dg)(c d:bm):ae R:=ev zt (gT R) kk (sq bB 13) ⟨uS 3 (pA 4 lg::pA 5 cZ::pA 6 cZ::uS 17 (bA a::uS 170 [])),nS 4 (oA lg b::oA cZ c::oA cZ d::nS 188 [])⟩ (sk zt gT kk bB 7 (fk zt bB none K))
def Rh(a:dg)(b c:bm):ae R:=ev zt (gT R) kk (sq bB 7) ⟨uS 3 (pA 4 lg::pA 5 cZ::pA 6 cZ::uS 188 []),nS 4 (oA lg a::oA cZ b::oA cZ c::nS 188 [])⟩ (fk zt bB none K)
def Ri(a b:Int)(c:Bool)(d:dg)(e f:bm):ae R:=ev zt (gT R) kk (sq bB 125) ⟨uS 3 (pA 4 lg::pA 5 cZ::pA 6 cZ::uS 1 (iA a::iA b::uS 39 (bA c::uS 145 []))),nS 4 (oA lg d::oA cZ e::oA cZ f::nS 188 [])⟩ (sk zt gT kk bB 63 (fk zt bB none K))
def Rj(a b:Int)(c:dg)(d e:bm):ae R:=ev zt (gT R) kk (sq bB 63) ⟨uS 3 (pA 4 lg::pA 5 cZ::pA 6 cZ::uS 1 (iA a::iA b::uS 185 [])),nS 4 (oA lg c::oA cZ d::oA cZ e::nS 188 [])⟩ (fk zt bB none K)
def Rk(a b:Int)(c:Bool)(d:dg)(e f:bm):ae R:=ev zt (gT R) kk (sq bB 253) ⟨uS 3 (pA 4 lg::pA 5 cZ::pA 6 cZ::uS 1 (iA a::iA b::uS 56 (bA c::uS 128 []))),nS 4 (oA lg d::oA cZ e::oA cZ f::nS 188 [])⟩ (sk zt gT kk bB 127 (fk zt bB none K))
def Rl(a b:Int)(c:dg)(d e:bm):ae R:=ev zt (gT R) kk (sq bB 127) ⟨uS 3 (pA 4 lg::pA 5 cZ::pA 6 cZ::uS 1 (iA a::iA b::uS 185 [])),nS 4 (oA lg c::oA cZ d::oA cZ e::nS 188 [])⟩ (fk zt bB none K)
def Rm(a b:Int)(c:Bool)(d:dg)(e f:bm):ae R:=ev zt (gT R) kk (sq bB 509) ⟨uS 3 (pA 4 lg::pA 5 cZ::pA 6 cZ::uS 1 (iA a::iA b::uS 75 (bA c::uS 109 []))),nS 4 (oA lg d::oA cZ e::oA cZ f::nS 188 [])⟩ (sk zt gT kk bB 255 (fk zt bB none K))
def Rn(a b:Int)(c:dg)(d e:bm):ae R:=ev zt (gT R) kk (sq bB 255) ⟨uS 3 (pA 4 lg::pA 5 cZ::pA 6 cZ::uS 1 (iA a::iA b::uS 185 [])),nS 4 (oA lg c::oA cZ d::oA cZ e::nS 188 [])⟩ (fk zt bB none K)
def Ww:ae R:=ev zt (gT R) kk (sq bB 511) ⟨uS 194 [],nS 195 []⟩ (fk zt bB none K)
def Ro(a:Bool):ae R:=ev zt (gT R) kk (sq bB 1046007) ⟨uS 140 (bA a::uS 53 []),nS 195 []⟩ (zl 0 (sk zt gT kk bB 511 (fk zt bB none K)))
def P2(a b:Int)(c:Bool)(d:dg)(e f:bm):ae R:=ev zt (gT R) kk (sq bB 4184051) ⟨uS 3 (pA 4 lg::pA 5 cZ::pA 6 cZ::uS 1 (iA a::iA b::uS 147 (bA c::uS 37 []))),nS 4 (oA lg d::oA cZ e::oA cZ f::nS 188 [])⟩ (sk zt gT kk bB 1046013 (zl 0 (sk zt gT kk bB 511 (fk zt bB none K))))
def P3(a b:Int)(c:dg)(d e:bm):ae R:=ev zt (gT R) kk (sq bB 1046013) ⟨uS 3 (pA 4 lg::pA 5 cZ::pA 6 cZ::uS 1 (iA a::iA b::uS 185 [])),nS 4 (oA lg c::oA cZ d::oA cZ e::nS 188 [])⟩ (zl 0 (sk zt gT kk bB 511 (fk zt bB none K)))
def P4(a b c:Int)(d:dg)(e f:bm):ae R:=ev zt (gT R) kk (sq bB 16736217) ⟨uS 3 (pA 4 lg::pA 5 cZ::pA 6 cZ::uS 1 (iA a::iA b::uS 4 (iA c::uS 180 []))),nS 4 (oA lg d::oA cZ e::oA cZ f::nS 188 [])⟩ (lk zt gT kk bB 8368108 k J)
def P5(a b c:Int)(d:dg)(e f:bm):ae R:=ev zt (gT R) kk (sq bB 133889737) ⟨uS 3 (pA 4 lg::pA 5 cZ::pA 6 cZ::uS 1 (iA a::iA b::uS 4 (iA c::uS 180 []))),nS 4 (oA lg d::oA cZ e::oA cZ f::nS 188 [])⟩ (zl 2 (sk zt gT kk bB 33472435 (lk zt gT kk bB 8368108 k J)))
def P6(a b c:Int)(d:dg)(e f:bm):ae R:=ev zt (gT R) kk (sq bB 33472435) ⟨uS 3 (pA 4 lg::pA 5 cZ::pA 6 cZ::uS 1 (iA a::iA b::uS 4 (iA c::uS 180 []))),nS 4 (oA lg d::oA cZ e::oA cZ f::nS 188 [])⟩ (lk zt gT kk bB 8368108 k J)
def Wx(a b c:Int)(d:dg)(e f:bm):ae R:=lq zt gT kk bB 8368108 k J ⟨uS 3 (pA 4 lg::pA 5 cZ::pA 6 cZ::uS 1 (iA a::iA b::uS 4 (iA c::uS 180 []))),nS 4 (oA lg d::oA cZ e::oA cZ f::nS 188 [])⟩
def zdy:State:=⟨uS 194 [],nS 195 []⟩
def VL(a:Int):State:=⟨uS 6 (iA a::uS 187 []),nS 195 []⟩
def zv4:KX R:=(zl 1 (zl 0 (sk zt gT kk bB 511 (fk zt bB none K))))
theorem ah5 a b c d:Rg R kk K a b c d=
 zv9 a b c d (λa0=>K [tI a0] none) (λa0 a1 a2=>jR kk λ_=>Rh R kk K a0 a1 a2):=by kernel_rfl
theorem ah6 a b c:Rh R kk K a b c=
 z85 a b c (λa0 a1 a2 a3 a4 a5=>jR kk λ_=>Ri R kk K a0 a1 a2 a3 a4 a5):=by kernel_rfl
theorem ah7 a b c d e f:Ri R kk K a b c d e f=
 zva a b c d e f (λa0=>K [tI a0] none) (λa0 a1 a2 a3 a4=>jR kk λ_=>Rj R kk K a0 a1 a2 a3 a4):=by kernel_rfl
theorem ah8 a b c d e:Rj R kk K a b c d e=
 K6 a b c d e (λa0 a1 a2 a3 a4 a5=>jR kk λ_=>Rk R kk K a0 a1 a2 a3 a4 a5):=by kernel_rfl
theorem ah9 a b c d e f:Rk R kk K a b c d e f=
 zvb a b c d e f (λa0=>K [tI a0] none) (λa0 a1 a2 a3 a4=>jR kk λ_=>Rl R kk K a0 a1 a2 a3 a4):=by kernel_rfl
theorem aia a b c d e:Rl R kk K a b c d e=
 z87 a b c d e (λa0 a1 a2 a3 a4 a5=>jR kk λ_=>Rm R kk K a0 a1 a2 a3 a4 a5):=by kernel_rfl
theorem aib a b c d e f:Rm R kk K a b c d e f=
 zvc a b c d e f (λa0=>K [tI a0] none) (λa0 a1 a2 a3 a4=>jR kk λ_=>Rn R kk K a0 a1 a2 a3 a4):=by kernel_rfl
theorem aic a b c d e:Rn R kk K a b c d e=
 K7 a b c d e (λa0=>K [tI a0] none) (jR kk λ_=>Ww R kk K) (λa0=>jR kk λ_=>Ro R kk K a0) (λa0 a1 a2 a3 a4 a5=>jR kk λ_=>P2 R kk K a0 a1 a2 a3 a4 a5):=by kernel_rfl
theorem aid:Ww R kk K=
 zvd (λa0=>K [tI a0] none):=by kernel_rfl
theorem aie a:Ro R kk K a=
 zo4 a (λa0=>K [tI a0] none) (jR kk λ_=>Ww R kk K):=by kernel_rfl
theorem aeC a b c d e f:P2 R kk K a b c d e f=
 zo5 a b c d e f (λa0=>K [tI a0] none) (λa0 a1 a2 a3 a4=>jR kk λ_=>P3 R kk K a0 a1 a2 a3 a4):=by kernel_rfl
theorem aeD a b c d e:P3 R kk K a b c d e=
 V5 a b c d e (Wx R kk kk (zv4 R kk K)):=by kernel_rfl
theorem ald a b c d e f:Wx R kk (k+1) J a b c d e f=
 S9 a b c d e f (λa0 a1 a2 a3 a4 a5=>jR kk λ_=>P4 R kk k J a0 a1 a2 a3 a4 a5) (J (.exit 1) (zdy)):=by kernel_rfl
theorem aeE a b c d e f:P4 R kk k J a b c d e f=
 V6 a b c d e f (λa0=>J .ret (VL a0)) (λa0 a1 a2 a3 a4 a5=>jR kk λ_=>P5 R kk k J a0 a1 a2 a3 a4 a5):=by kernel_rfl
theorem aeH:zv4 R kk K (.exit 1) (zdy)=
 zo6 (jR kk λ_=>Ww R kk K):=by kernel_rfl
theorem aeI a:zv4 R kk K .ret (VL a)=
 zo7 a (λa0=>K [tI a0] none):=by kernel_rfl
theorem aeF a b c d e f:P5 R kk k J a b c d e f=
 V7 a b c d e f (λa0=>J .ret (VL a0)) (λa0 a1 a2 a3 a4 a5=>jR kk λ_=>P6 R kk k J a0 a1 a2 a3 a4 a5):=by kernel_rfl
theorem aeG a b c d e f:P6 R kk k J a b c d e f=
 V8 a b c d e f (Wx R kk k J):=by kernel_rfl
theorem aif{kk:Nat}(hF:kk=bE) a b c d f g:Wx R kk k J a b c d f g=(C3 k a b c d f g).bind λe=>(aA (λ(we:Unit)=>J (.exit 1) (zdy)) (λ(we:Int)=>J .ret (VL we)) e):=by
 induction k generalizing a b c d f g with
 |zero=>rfl
 |succ k ih=>rw[ald];simp only[C3,S9,V6,V7,V8,ih,aeE,aeF,aeG,Sz (hF:=hF),cP]
def FQ:bu:=gT.add 137 [lg,cZ,cZ] (sG lg cZ cZ AN gk)
theorem abA:dt aj gt FQ:=sX zt (λR kk x0 x1 x2 K=>K5 x0 x1 x2 (λa0 a1 a2 a3=>jR kk λ_=>Rg R kk K a0 a1 a2 a3)) abz (ei.join _) Tryz.func137 (λR kk e x0 x1 x2 K=>by simp only[gk,AN,aci,zv9,acj,zva,ack,zvb,acm,zvc,acn,zvd,zo4,zo5,V5,zo6,zo7,aif (hF:=e),zv5,Wy,Hb,Tl,zv6,JM,zv7,Tm,Wz,zv8,zo3,S8,ah5,ah6,aeC,aeD,ah7,ah8,ah9,aia,aib,aic,aid,aie,aeH,aeI,Sz (hF:=e),cP,<-e])
def anf:Env:=e0 [lg,lg]
def pL:bu:=FQ.add 138 [lg,lg] (mr lg lg AP ew)
theorem abB:dt aj gt pL:=mE anf (λR kk x0 x1 K=>WN x0 x1 (λa0=>K [tB a0] none)) abA ei Tryz.func138 (λR kk e x0 x1 K=>by simp only[ew,AP,WN,cP])
def C5:Env:=jo.env (kp [(8,[3,4,5,9]),(19,[3,4,5,13]),(25,[3,4,5,13,15])]) (kp [(8,[3,4,5,6,7,8]),(19,[6,7,8]),(25,[3,4,5,6,7,8,13])]) [] [lA,cZ,cZ]
def WC(a:Int)(b:c9)(c d:bm):ae R:=lq C5 pL kk gK 500 k J ⟨uS 3 (pA 4 lA::pA 5 cZ::pA 6 cZ::uS 3 (iA a::uS 104 [])),nS 4 (oA lA b::oA cZ c::oA cZ d::nS 108 [])⟩
def ze1(a b c:Int)(d:c9)(e f:bm):State:=⟨uS 3 (pA 4 lA::pA 5 cZ::pA 6 cZ::iA a::iA b::iA c::uS 105 []),nS 4 (oA lA d::oA cZ e::oA cZ f::nS 108 [])⟩
def ze2(a:c9)(b c:bm):State:=⟨uS 3 (pA 4 lA::pA 5 cZ::pA 6 cZ::uS 108 []),nS 4 (oA lA a::oA cZ b::oA cZ c::nS 108 [])⟩
def zvh:KX R:=(zl 0 (sk C5 pL kk gK 63 (fk C5 gK none K)))
def WD(a:Int)(b:c9)(c d:bm):ae R:=lq C5 pL kk gK 2036 k J ⟨uS 3 (pA 4 lA::pA 5 cZ::pA 6 cZ::uS 7 (iA a::uS 100 [])),nS 4 (oA lA b::oA cZ c::oA cZ d::nS 108 [])⟩
def VM(a b c:Int):State:=⟨uS 6 (iA a::iA b::iA c::uS 105 []),nS 115 []⟩
def ze3:State:=⟨uS 114 [],nS 115 []⟩
def zvi:KX R:=(zl 2 (sk C5 pL kk gK 255 (fk C5 gK none K)))
def WE(a b:Int)(c:c9)(d e:bm):ae R:=lq C5 pL kk gK 260684 k J ⟨uS 3 (pA 4 lA::pA 5 cZ::pA 6 cZ::uS 7 (iA a::uS 1 (iA b::uS 98 []))),nS 4 (oA lA c::oA cZ d::oA cZ e::nS 108 [])⟩
def ze4(a b c d:Int)(e:c9)(f g:bm):State:=⟨uS 3 (pA 4 lA::pA 5 cZ::pA 6 cZ::iA a::iA b::iA c::uS 4 (iA d::uS 100 [])),nS 4 (oA lA e::oA cZ f::oA cZ g::nS 108 [])⟩
def ze5(a:Int)(b:c9)(c d:bm):State:=⟨uS 3 (pA 4 lA::pA 5 cZ::pA 6 cZ::uS 7 (iA a::uS 100 [])),nS 4 (oA lA b::oA cZ c::oA cZ d::nS 108 [])⟩
def zvj:KX R:=(zl 4 (zl 3 (sk C5 pL kk gK 8147 (lk C5 pL kk gK 2036 k J))))
theorem alf a b c d:WC R kk (k+1) J a b c d=
 Tp a b c d (λa0 a1 a2 a3 a4 a5=>J .ret (ze1 a0 a1 a2 a3 a4 a5)) (WC R kk k J) (λa0 a1 a2=>J (.exit 0) (ze2 a0 a1 a2)):=by kernel_rfl
theorem aeL a b c d e f:zvh R kk K .ret (ze1 a b c d e f)=
 zvk a b c d e f (λa0 a1 a2=>K [tI a0,tI a1,tI a2] none):=by kernel_rfl
theorem aeM a b c:zvh R kk K (.exit 0) (ze2 a b c)=
 WH a b c (λa0 a1 a2=>K [tI a0,tI a1,tI a2] none) (WD R kk kk (zvi R kk K)):=by kernel_rfl
theorem alg a b c d:WD R kk (k+1) J a b c d=
 Tq a b c d (λa0 a1 a2=>J .ret (VM a0 a1 a2)) (WE R kk kk (zvj R kk k J)) (J (.exit 2) (ze3)):=by kernel_rfl
theorem aeN a b c:zvi R kk K .ret (VM a b c)=
 zvl a b c (λa0 a1 a2=>K [tI a0,tI a1,tI a2] none):=by kernel_rfl
theorem aeO:zvi R kk K (.exit 2) (ze3)=
 zvm (λa0 a1 a2=>K [tI a0,tI a1,tI a2] none):=by kernel_rfl
theorem alh a b c d e:WE R kk (k+1) J a b c d e=
 Tr a b c d e (λa0 a1 a2 a3 a4 a5 a6=>J .ret (ze4 a0 a1 a2 a3 a4 a5 a6)) (WE R kk k J) (λa0 a1 a2 a3=>J (.exit 4) (ze5 a0 a1 a2 a3)):=by kernel_rfl
theorem aeP a b c d e f g:zvj R kk k J .ret (ze4 a b c d e f g)=
 zvn a b c d e f g (λa0 a1 a2=>J .ret (VM a0 a1 a2)):=by kernel_rfl
theorem aeQ a b c d:zvj R kk k J (.exit 4) (ze5 a b c d)=
 WI a b c d (WD R kk k J):=by kernel_rfl
theorem aii{kk:Nat}(hF:kk=bE) a b c d:WC R kk k J a b c d=(JN k a b c d).bind λe=>(aA (λ(we:tX)=>J .ret (ze1 we.1 we.2.1 we.2.2.1 we.2.2.2.1 we.2.2.2.2.1 we.2.2.2.2.2)) (λ(we:tW)=>J (.exit 0) (ze2 we.1 we.2.1 we.2.2)) e):=by
 induction k generalizing a b c d with
 |zero=>rfl
 |succ k ih=>rw[alf];simp only[JN,Tp,ih,cP]
theorem aik{kk:Nat}(hF:kk=bE) a b c d f:WE R kk k J a b c d f=(JP k a b c d f).bind λe=>(aA (λ(we:(Int×Int×Int×Int×c9×bm×bm))=>J .ret (ze4 we.1 we.2.1 we.2.2.1 we.2.2.2.1 we.2.2.2.2.1 we.2.2.2.2.2.1 we.2.2.2.2.2.2)) (λ(we:(Int×c9×bm×bm))=>J (.exit 4) (ze5 we.1 we.2.1 we.2.2.1 we.2.2.2)) e):=by
 induction k generalizing a b c d f with
 |zero=>rfl
 |succ k ih=>rw[alh];simp only[JP,Tr,ih,cP]
theorem aij{kk:Nat}(hF:kk=bE) a b c d:WD R kk k J a b c d=(JO k a b c d).bind λe=>(aA (λ(we:qw)=>J .ret (VM we.1 we.2.1 we.2.2)) (λ(we:Unit)=>J (.exit 2) (ze3)) e):=by
 induction k generalizing a b c d with
 |zero=>rfl
 |succ k ih=>rw[alg];simp only[JO,Tq,zvn,WI,ih,aik (hF:=hF),aeP,aeQ,cP,<-hF]
def x8:bu:=pL.add 81 [lA,cZ,cZ] (sG lA cZ cZ AO m4)
theorem abC:dt aj gt x8:=sX C5 (λR kk x0 x1 x2 K=>WG x0 x1 x2 (λa0 a1 a2=>K [tI a0,tI a1,tI a2] none) (WC R kk kk (zvh R kk K))) abB ei Tryz.func81 (λR kk e x0 x1 x2 K=>by simp only[m4,AO,WG,zvk,WH,zvl,zvm,aii (hF:=e),aij (hF:=e),aeL,aeM,aeN,aeO,cP,<-e])
def Zq:Env:=jo.env (kp [(4,[1,5])]) (kp [(4,[2,3,4])]) [] [nE]
def WZ(a:Int)(b:er):ae R:=lq Zq x8 kk Tryz.f36 116 k J ⟨uS 1 (pA 2 nE::uS 3 (iA a::uS 56 [])),nS 2 (oA nE b::nS 60 [])⟩
def zei(a b c:Int):State:=⟨uS 2 (iA a::iA b::iA c::uS 57 []),nS 63 []⟩
def zej:State:=⟨uS 62 [],nS 63 []⟩
def zw6:KX R:=(zl 0 (sk Zq x8 kk Tryz.f36 15 (fk Zq Tryz.f36 none K)))
theorem alp a b:WZ R kk (k+1) J a b=
 K8 a b (λa0 a1 a2=>J .ret (zei a0 a1 a2)) (WZ R kk k J) (J (.exit 0) (zej)):=by kernel_rfl
theorem ae3 a b c:zw6 R kk K .ret (zei a b c)=
 zw7 a b c (λa0 a1 a2=>K [tI a0,tI a1,tI a2] none):=by kernel_rfl
theorem ae4:zw6 R kk K (.exit 0) (zej)=
 zw8 (λa0 a1 a2=>K [tI a0,tI a1,tI a2] none):=by kernel_rfl
theorem air{kk:Nat}(hF:kk=bE) a b:WZ R kk k J a b=(JT k a b).bind λe=>(aA (λ(we:qw)=>J .ret (zei we.1 we.2.1 we.2.2)) (λ(we:Unit)=>J (.exit 0) (zej)) e):=by
 induction k generalizing a b with
 |zero=>rfl
 |succ k ih=>rw[alp];simp only[JT,K8,ih,cP]
def FR:bu:=x8.add 36 [nE] (kY nE AR m4)
theorem abD:dt aj gt FR:=lv Zq (λR kk x0 K=>W0 x0 (λa0 a1 a2=>K [tI a0,tI a1,tI a2] none) (WZ R kk kk (zw6 R kk K))) abC ei Tryz.func36 (λR kk e x0 K=>by simp only[m4,AR,W0,zw7,zw8,air (hF:=e),ae3,ae4,cP,<-e])
def x9:bu:=FR.add 10 [nE] (kY nE AU ew)
theorem abE:dt aj gt x9:=lv Sb (λR kk x0 K=>W4 x0 (λa0=>K [tB a0] none)) abD ei Tryz.func10 (λR kk e x0 K=>by simp only[ew,AU,W4,cP])
def xp:Env:=jo.env (kp [(5,[1,2,3,25,26,27])]) (kp [(5,[1,2,3])]) [2] [jG]
def zse(a b:js)(c d:Int)(e f:ct):ae R:=lq xp x9 kk Tryz.f38 500 k J ⟨uS 1 (pA 2 jG::pA 3 jG::dB Au a::uS 21 (dA Au b::iA c::iA d::uS 24 [])),nS 2 ((some ⟨jG,e,[[0,2],[1,0]]⟩)::(some ⟨jG,f,[[0,2],[1,0],[1,1],[2],[3]]⟩)::nS 49 [])⟩
def zon(a:js)(b c:ct):State:=⟨uS 1 (pA 2 jG::pA 3 jG::dB Au a::uS 48 []),nS 2 ((some ⟨jG,b,[[0,2],[1,0]]⟩)::(some ⟨jG,c,[[0,2],[1,0],[1,1],[2],[3]]⟩)::nS 49 [])⟩
def Sl:KX R:=(zl 0 (sk xp x9 kk Tryz.f38 63 (fk xp Tryz.f38 none K)))
theorem anN a b c d e f:zse R kk (k+1) J a b c d e f=
 IP a b c d e f (zse R kk k J) (λa0 a1 a2=>J (.exit 0) (zon a0 a1 a2)):=by kernel_rfl
theorem ajf a b c:Sl R kk K (.exit 0) (zon a b c)=
 zsg a b c (λa0=>K [.b8 jG a0 [[3],[2],[0,2],[1,0]]] none):=by kernel_rfl
theorem amb{kk:Nat}(hF:kk=bE) a b c d f g:zse R kk k J a b c d f g=(Um k a b c d f g).bind λe=>J (.exit 0) (zon e.1 e.2.1 e.2.2):=by
 induction k generalizing a b c d f g with
 |zero=>rfl
 |succ k ih=>rw[anN];simp only[Um,IP,ih,cP]
def FT:bu:=x9.add 38 [jG] (kY jG L3 (λ_ r K=>K [.b8 jG r [[3],[2],[0,2],[1,0]]] none))
theorem abF:dt aj gt FT:=lv xp (λR kk x0 K=>zsf x0 (zse R kk kk (Sl R kk K))) abE ei Tryz.func38 (λR kk e x0 K=>by simp only[L3,zsf,zsg,amb (hF:=e),ajf,cP,<-e])
def ya:bu:=FT.add 39 [y1] (kY y1 LZ (λ_ r K=>(aA (λ(wr:Int)=>K [.m5,tI wr] none) (λ(wr:yQ)=>K [.ptr 0 oZ [],tI wr.1] (some ⟨oZ,wr.2,[[2]]⟩)) r)))
theorem abG:dt aj gt ya:=lv n9 (λR kk x0 K=>zs4 x0 (λa0=>K [.m5,tI a0] none) (λa0 a1=>K [.ptr 0 oZ [],tI a0] (some ⟨oZ,a1,[[2]]⟩))) abF ei Tryz.func39 (λR kk e x0 K=>by simp only[LZ,zs4,cP]) (ho:=λ_ _ _ _ _ _ h=>Zc (λ_=>h _ _) (λ_=>h _ _))
def xn:Env:={{jo.env (kp [(6,[1,7,19,20])]) (kp [(6,[7,19])]) [] [nE] with sg:=some (4,9,7)} with gr:=λt=>bif ak t 98 then some (nE,oZ) else none,ga:=λt=>ak t 96}
def zsb(a:Int)(b:er)(c:(er×(ae cR×ae cR)×Int)):ae R:=lq xn ya kk Tryz.f13 244 k J ⟨uS 1 (pA 2 nE::uS 5 (pA 20 qM::uS 12 (iA a::uS 26 []))),nS 2 (oA nE b::nS 17 ((some ⟨qM,c,[[],[0],[0,2],[1],[1,2]]⟩)::nS 27 []))⟩
def zom(a:(er×(ae cR×ae cR)×Int)):State:=⟨uS 7 (pA 20 qM::uS 39 []),nS 20 ((some ⟨qM,a,[[],[0],[0,2],[1],[1,2]]⟩)::nS 27 [])⟩
def Sk:KX R:=(zl 0 (sk xn ya kk Tryz.f13 31 (fk xn Tryz.f13 none K)))
theorem anM a b c:zsb R kk (k+1) J a b c=
 Lr a b c (zsb R kk k J) (λa0=>J (.exit 0) (zom a0)):=by kernel_rfl
theorem aje a:Sk R kk K (.exit 0) (zom a)=
 IM a (λa0 a1=>K [.ptr 0 qM [],tI a0] (some ⟨qM,a1,[[],[0],[0,2],[1],[1,2]]⟩)):=by kernel_rfl
theorem ama{kk:Nat}(hF:kk=bE) a b c:zsb R kk k J a b c=(z91 k a b c).bind λe=>J (.exit 0) (zom e):=by
 induction k generalizing a b c with
 |zero=>rfl
 |succ k ih=>rw[anM];simp only[z91,Lr,ih,cP]
def FU:bu:=ya.add 13 [nE] (kY nE HA (λ_ r K=>(aA (λ(wr:Int)=>K [.m5,tI wr] none) (λ(wr:(Int×(er×(ae cR×ae cR)×Int)))=>K [.ptr 0 qM [],tI wr.1] (some ⟨qM,wr.2,[[],[0],[0,2],[1],[1,2]]⟩)) r)))
theorem abH:dt aj gt FU:=lv xn (λR kk x0 K=>zsc x0 (λa0=>K [.m5,tI a0] none) (zsb R kk kk (Sk R kk K))) abG ((ei.sg _).kF 98 96 nE oZ (by kernel_rfl) (by kernel_rfl) (by kernel_rfl) (by kernel_rfl)) Tryz.func13 (λR kk e x0 K=>by simp only[HA,zsc,IM,ama (hF:=e),aje,cP,<-e]) (ho:=λ_ _ _ _ _ _ h=>Zc (λ_=>h _ _) (λ_=>h _ _))
def FV:bu:=FU.add 40 [y1] (kY y1 HB ew)
theorem abI:dt aj gt FV:=lv n9 (λR kk x0 K=>zsd x0 (λa0=>K [tB a0] none)) abH ei Tryz.func40 (λR kk e x0 K=>by simp only[ew,HB,zsd,cP])
def Bp:Env:=e0 [.unit]
def yb:bu:=FV.add 84 [.unit] (Ov oZ [[2]] LY Eo)
theorem abJ:dt aj gt yb:=sb0 Bp (λR kk x0 K=>zs3 x0 (λa0 a1=>K [tI a0] (some ⟨oZ,a1,[[2]]⟩))) abI ei Tryz.func84 (λR kk e x0 K=>by simp only[Eo,LY,zs3,cP])
def xk:Env:=jo.env (kp [(3,[0,1,6,7])]) (kp [(3,[4,5,6])]) [] [.unit,.str]
def zrz(a:af)(b:(List af))(c:Int)(d:cR):ae R:=lq xk yb kk Tryz.f41 116 k J ⟨pA 0 oZ::sA a::uS 4 (dB y3 b::iA c::uS 80 []),(some ⟨oZ,d,[[2]]⟩)::nS 88 []⟩
def zoj(a:(List af))(b:Bool)(c:(List af))(d:cR):State:=⟨uS 4 (dA y3 a::bA b::dB y3 c::uS 81 []),(some ⟨oZ,d,[[2]]⟩)::nS 88 []⟩
def zok(a:(List af))(b:cR):State:=⟨uS 6 (dB y3 a::uS 81 []),(some ⟨oZ,b,[[2]]⟩)::nS 88 []⟩
def IJ(a:cR):KX R:=(zl 0 (sk xk yb kk Tryz.f41 15 (fk xk Tryz.f41 (some ⟨oZ,a,[[2]]⟩) K)))
theorem anK a b c d:zrz R kk (k+1) J a b c d=
 Uk a b c d (λa0 a1 a2 a3=>J .ret (zoj a0 a1 a2 a3)) (zrz R kk k J) (λa0 a1=>J (.exit 0) (zok a0 a1)):=by kernel_rfl
theorem ajb a b c d e:IJ R kk K a .ret (zoj b c d e)=
 zs1 b c d e (λa0 a1 a2=>K [.b8 y3 a0 [],tB a1] (some ⟨oZ,a2,[[2]]⟩)):=by kernel_rfl
theorem ajc a b c:IJ R kk K a (.exit 0) (zok b c)=
 zs2 b c (λa0 a1 a2=>K [.b8 y3 a0 [],tB a1] (some ⟨oZ,a2,[[2]]⟩)):=by kernel_rfl
theorem al8{kk:Nat}(hF:kk=bE) a b c d:zrz R kk k J a b c d=(Kd k a b c d).bind λe=>(aA (λ(we:((List af)×Bool×(List af)×cR))=>J .ret (zoj we.1 we.2.1 we.2.2.1 we.2.2.2)) (λ(we:((List af)×cR))=>J (.exit 0) (zok we.1 we.2)) e):=by
 induction k generalizing a b c d with
 |zero=>rfl
 |succ k ih=>rw[anK];simp only[Kd,Uk,ih,cP]
def FW:bu:=yb.add 41 [.unit,.str] (KI oZ [[2]] .str Hy (λ_ r K=>K [.b8 y3 r.1 [],tB r.2.1] (some ⟨oZ,r.2.2,[[2]]⟩)))
theorem abK:dt aj gt FW:=Vk xk (λR kk x0 x1 K=>zs0 x0 x1 (zrz R kk kk (IJ R kk K x0))) abJ ei Tryz.func41 (λR kk e x0 x1 K=>by simp only[Hy,zs0,zs1,zs2,al8 (hF:=e),ajb,ajc,cP,<-e])
def FX:bu:=FW.add 12 [.str] (kY .str Hz vp)
theorem abL:dt aj gt FX:=lv J8 (λR kk x0 K=>zs5 x0 (λa0 a1=>K [tS a0,tI a1] none)) abK ei Tryz.func12 (λR kk e x0 K=>by simp only[vp,Hz,zs5,cP])
def L2:Env:={jo.env (λ_=>[]) (λ_=>[]) [6] [.unit,y1,.str] with gr:=λt=>bif ak t 98 then some (nE,oZ) else none,ga:=λt=>ak t 96}
def yc:bu:=FX.add 42 [.unit,y1,.str] (pb2 qM [[],[0],[0,2],[1],[1,2]] y1 .str Kn (λ_ r K=>K [.b8 OP r.1 []] (some ⟨qM,r.2,[[],[0],[0,2],[1],[1,2]]⟩)))
theorem abM:dt aj gt yc:=sb2 L2 (λR kk x0 x1 x2 K=>zsa x0 x1 x2 (λa0 a1=>K [.b8 OP a0 []] (some ⟨qM,a1,[[],[0],[0,2],[1],[1,2]]⟩))) abL (ei.kF 98 96 nE oZ (by kernel_rfl) (by kernel_rfl) (by kernel_rfl) (by kernel_rfl)) Tryz.func42 (λR kk e x0 x1 x2 K=>by simp only[Kn,zsa,cP])
def xl:Env:={{jo.env (kp [(6,[0,3,5,7,27,28,29])]) (kp [(6,[0,3,5,7])]) [] [.unit,nD] with ro:=true} with gr:=λt=>bif ak t 98 then some (nE,oZ) else none,ga:=λt=>ak t 96}
def zs7(a:mY)(b:Bool)(c:(List af))(d e:Int)(f:(er×(ae cR×ae cR)×Int))(g:eS):ae R:=lq xl yc kk Tryz.f16 500 k J ⟨pA 0 qM::uS 2 (pA 4 nD::uS 1 (dB yp a::uS 1 (bA b::uS 19 (dA y3 c::iA d::iA e::uS 24 [])))),(some ⟨qM,f,[[],[0],[0,2],[1],[1,2]]⟩)::nS 3 (oA nD g::nS 50 [])⟩
def zol(a:mY)(b:Bool)(c:(er×(ae cR×ae cR)×Int))(d:eS):State:=⟨pA 0 qM::uS 2 (pA 4 nD::uS 1 (dB yp a::uS 1 (bA b::uS 46 []))),(some ⟨qM,c,[[],[0],[0,2],[1],[1,2]]⟩)::nS 3 (oA nD d::nS 50 [])⟩
def Sj(a:(er×(ae cR×ae cR)×Int)):KX R:=(zl 0 (sk xl yc kk Tryz.f16 63 (fk xl Tryz.f16 (some ⟨qM,a,[[],[0],[0,2],[1],[1,2]]⟩) K)))
theorem anL a b c d e f g:zs7 R kk (k+1) J a b c d e f g=
 IL a b c d e f g (zs7 R kk k J) (λa0 a1 a2 a3=>J (.exit 0) (zol a0 a1 a2 a3)):=by kernel_rfl
theorem ajd a b c d e:Sj R kk K a (.exit 0) (zol b c d e)=
 Ul b c d e (λa0 a1=>K [.b8 yp a0 []] (some ⟨qM,a1,[[],[0],[0,2],[1],[1,2]]⟩)):=by kernel_rfl
theorem al9{kk:Nat}(hF:kk=bE) a b c d f g h:zs7 R kk k J a b c d f g h=(Lq k a b c d f g h).bind λe=>J (.exit 0) (zol e.1 e.2.1 e.2.2.1 e.2.2.2):=by
 induction k generalizing a b c d f g h with
 |zero=>rfl
 |succ k ih=>rw[anL];simp only[Lq,IL,ih,cP]
def yd:bu:=yc.add 16 [.unit,nD] (KI qM [[],[0],[0,2],[1],[1,2]] nD Fl (λ_ r K=>K [.b8 yp r.1 []] (some ⟨qM,r.2,[[],[0],[0,2],[1],[1,2]]⟩)))
theorem abN:dt aj gt yd:=Vk xl (λR kk x0 x1 K=>zs8 x0 x1 (λa0 a1=>K [.b8 yp a0 []] (some ⟨qM,a1,[[],[0],[0,2],[1],[1,2]]⟩)) (zs7 R kk kk (Sj R kk K x0))) abM ((ei.ro _).kF 98 96 nE oZ (by kernel_rfl) (by kernel_rfl) (by kernel_rfl) (by kernel_rfl)) Tryz.func16 (λR kk e x0 x1 K=>by simp only[Fl,zs8,Ul,al9 (hF:=e),ajd,cP,<-e])
def Zt:Env:=jo.env (kp [(4,[0,1,5])]) (kp [(4,[4])]) [] [yp,yp]
def W9(a b:mY)(c:Int):ae R:=lq Zt yd kk Tryz.f15 116 k J ⟨dA yp a::dA yp b::uS 3 (iA c::uS 20 []),nS 27 []⟩
def zen(a:Bool):State:=⟨uS 4 (bA a::uS 21 []),nS 27 []⟩
def zeo:State:=⟨uS 26 [],nS 27 []⟩
def zwg:KX R:=(zl 0 (sk Zt yd kk Tryz.f15 15 (fk Zt Tryz.f15 none K)))
theorem als a b c:W9 R kk (k+1) J a b c=
 zwh a b c (λa0=>J .ret (zen a0)) (W9 R kk k J) (J (.exit 0) (zeo)):=by kernel_rfl
theorem ae7 a:zwg R kk K .ret (zen a)=
 Xb a (λa0=>K [tB a0] none):=by kernel_rfl
theorem ae8:zwg R kk K (.exit 0) (zeo)=
 Xc (λa0=>K [tB a0] none):=by kernel_rfl
theorem aiu{kk:Nat}(hF:kk=bE) a b c:W9 R kk k J a b c=(Tz k a b c).bind λe=>(aA (λ(we:Bool)=>J .ret (zen we)) (λ(we:Unit)=>J (.exit 0) (zeo)) e):=by
 induction k generalizing a b c with
 |zero=>rfl
 |succ k ih=>rw[als];simp only[Tz,zwh,ih,cP]
def FY:bu:=yd.add 15 [yp,yp] (mr yp yp yF ew)
theorem abO:dt aj gt FY:=mE Zt (λR kk x0 x1 K=>Xa x0 x1 (λa0=>K [tB a0] none) (W9 R kk kk (zwg R kk K))) abN ei Tryz.func15 (λR kk e x0 x1 K=>by simp only[ew,yF,Xa,Xb,Xc,aiu (hF:=e),ae7,ae8,cP,<-e])
def FZ:bu:=FY.add 43 [.unit] (Ov oZ [[2]] Q40 (λ_ r K=>K [tB r.1] (some ⟨oZ,r.2,[[2]]⟩)))
theorem abP:dt aj gt FZ:=sb0 Bp (λR kk x0 K=>II x0 (λa0 a1=>K [tB a0] (some ⟨oZ,a1,[[2]]⟩))) abO ei Tryz.func43 (λR kk e x0 K=>by simp only[Q40,II,cP])
def Fk:Env:={e0 [.unit,y1] with gr:=λt=>bif ak t 98 then some (nE,oZ) else none,ga:=λt=>ak t 96}
def F0:bu:=FZ.add 17 [.unit,y1] (KI qM [[],[0],[0,2],[1],[1,2]] y1 L0 (λ_ r K=>K [tB r.1] (some ⟨qM,r.2,[[],[0],[0,2],[1],[1,2]]⟩)))
theorem abQ:dt aj gt F0:=Vk Fk (λR kk x0 x1 K=>zs6 x0 x1 (λa0 a1=>K [tB a0] (some ⟨qM,a1,[[],[0],[0,2],[1],[1,2]]⟩))) abP (ei.kF 98 96 nE oZ (by kernel_rfl) (by kernel_rfl) (by kernel_rfl) (by kernel_rfl)) Tryz.func17 (λR kk e x0 x1 K=>by simp only[L0,zs6,cP])
def F1:bu:=F0.add 44 [.unit] (Ov oZ [[2]] Q42 Eo)
theorem abR:dt aj gt F1:=sb0 Bp (λR kk x0 K=>IK x0 (λa0 a1=>K [tI a0] (some ⟨oZ,a1,[[2]]⟩))) abQ ei Tryz.func44 (λR kk e x0 K=>by simp only[Eo,Q42,IK,cP])
def F2:bu:=F1.add 18 [.unit,y1] (KI qM [[],[0],[0,2],[1],[1,2]] y1 L1 (λ_ r K=>K [tI r.1] (some ⟨qM,r.2,[[],[0],[0,2],[1],[1,2]]⟩)))
theorem abS:dt aj gt F2:=Vk Fk (λR kk x0 x1 K=>zs9 x0 x1 (λa0 a1=>K [tI a0] (some ⟨qM,a1,[[],[0],[0,2],[1],[1,2]]⟩))) abR (ei.kF 98 96 nE oZ (by kernel_rfl) (by kernel_rfl) (by kernel_rfl) (by kernel_rfl)) Tryz.func18 (λR kk e x0 x1 K=>by simp only[L1,zs9,cP])
def anj:Env:=e0 [nE,y1,y4]
def F3:bu:=F2.add 4 [nE,y1,y4] (sG nE y1 y4 AW ew)
theorem abT:dt aj gt F3:=sX anj (λR kk x0 x1 x2 K=>Xd x0 x1 x2 (λa0=>K [tB a0] none)) abS ei Tryz.func4 (λR kk e x0 x1 x2 K=>by simp only[ew,AW,Xd,cP])
end
end Go.Proofs.YtodeabafemckjaaGreatDoor

