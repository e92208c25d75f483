/- No condition. -/
import Derived.Test.YtpjkbbihjoflnaaGreatDoorK3
set_option linter.unusedVariables false
set_option linter.unusedSimpArgs false
set_option maxRecDepth 100000
namespace bj
open Go.IntKind renaming wrap->zW,i64->zI,u8->zU
open Go Go.Ref
abbrev ka(l:List bg):Prop:=l.Pairwise fun x y=>x.1<y.1
def mM(no:Int)(t:ByteArray):List bg->List bg
 | []=>[(no,t,())]
 |x::r=>if no<x.1 then(no,t,())::x::r else x::mM no t r
theorem zp0(no:Int):∀(l:List bg) (i d:Int),0<=i->0<=d->cn no l (i+d)=if cn no l i<0 then-1 else cn no l i+d
 | [],i,d,_,_=>by unfold cn;rw[if_pos (by omega)]
 |x::r,i,d,hi,hd=>by
  unfold cn
  by_cases hx:no<x.1
  ·rw[if_pos hx,if_pos hx,if_neg (by omega)]
  ·rw[if_neg hx,if_neg hx,show i+d+1=(i+1)+d by omega]
   exact zp0 no r (i+1) d (by omega) hd
theorem EL(no:Int)(t:ByteArray):∀l:List bg,mN l no t=mM no t l
 | []=>rfl
 |x::r=>by
  have ih:=EL no t r
  unfold mN at ih⊢
  unfold mM
  by_cases hx:no<x.1
  ·have:cn no (x::r) 0=0:=by unfold cn;rw[if_pos hx]
   rw[this,if_pos hx];rfl
  ·rw[if_neg hx,<-ih]
   have h0:cn no (x::r) 0=cn no r (0+1):=by
    show(if no<x.1 then(0:Int) else cn no r (0+1))=_
    rw[if_neg hx]
   rw[h0,zp0 no r 0 1 (by omega) (by omega)]
   rcases QN no r 0 (Int.le_refl _) with⟨h1,_⟩|h1
   ·rw[h1,if_pos (by omega)];rfl
   ·rw[if_neg (by omega),zF (by omega:¬cn no r 0+1<0),zF (by omega:¬cn no r 0<0),zD,zD]
    have:(cn no r 0+1).toNat=(cn no r 0).toNat+1:=by omega
    rw[this];rfl
theorem zrb(no:Int)(t:ByteArray)(v:bg):∀l:List bg,v∈mM no t l↔v=(no,t,())\/v∈l
 | []=>by simp [mM]
 |x::r=>by
  unfold mM
  split
  ·simp
  ·rw[List.mem_cons,zrb no t v r,List.mem_cons]
   constructor
   ·rintro(h|h|h)
    ·exact .inr (.inl h)
    ·exact .inl h
    ·exact .inr (.inr h)
   ·rintro(h|h|h)
    ·exact .inr (.inl h)
    ·exact .inl h
    ·exact .inr (.inr h)
theorem Ol(no:Int)(t:ByteArray):∀{l:List bg},ka l->(∀x∈l,x.1≠no)->ka (mM no t l)
 | [],_,_=>by simp [mM,ka]
 |x::r,h,hn=>by
  have hx:=hn x List.mem_cons_self
  rw[ka,List.pairwise_cons] at h
  unfold mM
  split
  ·rename_i al
   refine List.pairwise_cons.2 ⟨fun y hy=> ?_,List.pairwise_cons.2 h⟩
   rcases List.mem_cons.1 hy with rfl|hy
   ·exact al
   ·have:=h.1 y hy
    show no<y.1
    omega
  ·rename_i al
   refine List.pairwise_cons.2 ⟨fun y hy=> ?_,Ol no t h.2 (fun z hz=>hn z (List.mem_cons_of_mem _ hz))⟩
   rcases(zrb no t y r).1 hy with rfl|hy
   ·show x.1<no
    omega
   ·exact h.1 y hy
theorem MJ{l:List bg}{no:Int}{v:bg}:v∈fD l no↔v∈l/\v.1≠no:=by
 unfold fD
 rw[List.mem_filter]
 simp
theorem Uf(m:bI)(no:Int)(t:ByteArray)(v:bg):v∈(eP m no t).2.1↔v=(no,t,())\/(v∈m.2.1/\v.1≠no):=by
 show v∈mN (fD m.2.1 no) no t↔_
 rw[EL,zrb,MJ]
theorem zjd{m:bI}(h:ka m.2.1)(no:Int)(t:ByteArray):ka (eP m no t).2.1:=by
 show ka (mN (fD m.2.1 no) no t)
 rw[EL]
 exact Ol no t (h.filter _) (fun x hx=>(MJ.1 hx).2)
theorem ET:∀{l r:List bg},ka l->ka r->(∀v,v∈l↔v∈r)->l=r
 | [],[],_,_,_=>rfl
 | [],y::r,_,_,h=>by have:=(h y).2 List.mem_cons_self;cases this
 |x::l,[],_,_,h=>by have:=(h x).1 List.mem_cons_self;cases this
 |x::l,y::r,hl,hr,h=>by
  have kC:=List.pairwise_cons.1 hl
  have hr':=List.pairwise_cons.1 hr
  have e:x=y:=by
   rcases List.mem_cons.1 ((h x).1 List.mem_cons_self) with e|e
   ·exact e
   ·rcases List.mem_cons.1 ((h y).2 List.mem_cons_self) with e2|e2
    ·exact e2.symm
    ·have a1:=hr'.1 x e
     have a2:=kC.1 y e2
     omega
  subst e
  congr 1
  refine ET kC.2 hr'.2 fun v=>⟨fun hv=> ?_,fun hv=> ?_⟩
  ·rcases List.mem_cons.1 ((h v).1 (List.mem_cons_of_mem _ hv)) with e|e
   ·subst e;have:=kC.1 _ hv;omega
   ·exact e
  ·rcases List.mem_cons.1 ((h v).2 (List.mem_cons_of_mem _ hv)) with e|e
   ·subst e;have:=hr'.1 _ hv;omega
   ·exact e
def tg:List bg->bI->bI
 | [],out=>out
 |v::l,out=>tg l (eP out v.1 v.2.1)
def kg(l:List bg):Prop:=l.Pairwise fun x y=>x.1≠y.1
theorem zp8:∀(l:List bg) (out:bI),(tg l out).1=out.1
 | [],out=>rfl
 |v::l,out=>zp8 l _
theorem zwm:∀(l:List bg) {out:bI},ka out.2.1->ka (tg l out).2.1
 | [],out,h=>h
 |v::l,out,h=>zwm l (zjd h v.1 v.2.1)
theorem zwl:∀(l:List bg) (out:bI),kg l->(∀v∈l,∀w∈out.2.1,v.1≠w.1)->∀v,v∈(tg l out).2.1↔v∈out.2.1\/v∈l
 | [],out,_,_,v=>by simp [tg]
 |x::l,out,ha,hd,v=>by
  have AP:=List.pairwise_cons.1 ha
  have hx:(x.1,x.2.1,())=x:=rfl
  rw[tg,zwl l _ AP.2 (fun y hy w hw=> ?_) v,Uf,hx,List.mem_cons]
  ·constructor
   ·rintro((h|h)|h)
    ·exact .inr (.inl h)
    ·exact .inl h.1
    ·exact .inr (.inr h)
   ·rintro(h|h|h)
    ·exact .inl (.inr ⟨h,fun e=>hd x List.mem_cons_self v h e.symm⟩)
    ·exact .inl (.inl h)
    ·exact .inr h
  ·rcases(Uf out x.1 x.2.1 w).1 hw with e|e
   ·rw[e];exact fun h=>AP.1 y hy h.symm
   ·exact hd y (List.mem_cons_of_mem _ hy) w e.1
theorem ze5:∀(l r:List bg) (out:bI),tg (l++r) out=tg r (tg l out)
 | [],r,out=>rfl
 |v::l,r,out=>ze5 l r _
def il(l:List aO):List bg:=(l.filter fun r=>decide (r.1=3)).map fun r=>(r.2.2.1,r.2.2.2.1,())
theorem zav:∀(l:List aO) (out:bI),sI l out=tg (il l) out
 | [],out=>rfl
 |r::l,out=>by
  rw[sI]
  unfold il
  rw[List.filter_cons]
  cases decide (r.1=3) with
  |true=>exact zav l _
  |false=>exact zav l _
def jE(m:Map)(b:zf):List bg->Sum bL (List bg)
 | []=> .inr []
 |v::r=>match cU m v.1 with
  |none=> .inl (9,v.1,())
  |some q=>bif !decide ((zr q b v.2.1).2=0) then .inl ((zr q b v.2.1).2,v.1,()) else match jE m b r with
   | .inl f=> .inl f
   | .inr ys=> .inr ((zr q b v.2.1).1::ys)
def cE(l:List bg):List bg:=l.filter fun v=> !decide (v.1=0)
theorem zay(m:Map)(b:zf):∀(l:List bg) (out:bI),(∃f o,BV m b l out= .inl (f,o)/\jE m b l= .inl f)\/(∃ys,BV m b l out= .inr (tg (cE ys) out)/\jE m b l= .inr ys)
 | [],out=> .inr ⟨[],rfl,rfl⟩
 |v::r,out=>by
  rw[BV,jE]
  cases cU m v.1 with
  |none=>exact .inl ⟨_,_,rfl,rfl⟩
  |some q=>
   dsimp only
   generalize zr q b v.2.1=y
   cases decide (y.2=0) with
   |false=>exact .inl ⟨_,_,rfl,rfl⟩
   |true=>
    rw[Bool.not_true,zD,zD]
    cases hz:decide (y.1.1=0) with
    |true=>
     rw[Bool.not_true,zD]
     rcases zay m b r out with⟨f,o,h1,h2⟩|⟨ys,h1,h2⟩
     ·exact .inl ⟨f,o,h1,by rw[h2]⟩
     ·refine .inr ⟨y.1::ys,?_,by rw[h2]⟩
      rw[h1]
      have:cE (y.1::ys)=cE ys:=by unfold cE;rw[List.filter_cons,hz];rfl
      rw[this]
    |false=>
     rw[Bool.not_false,zC]
     rcases zay m b r (eP out y.1.1 y.1.2.1) with⟨f,o,h1,h2⟩|⟨ys,h1,h2⟩
     ·exact .inl ⟨f,o,h1,by rw[h2]⟩
     ·refine .inr ⟨y.1::ys,?_,by rw[h2]⟩
      rw[h1]
      have:cE (y.1::ys)=y.1::cE ys:=by unfold cE;rw[List.filter_cons,hz];rfl
      rw[this]
      rfl
theorem Ga{m:Map}{b:zf}:∀{l ys:List bg},jE m b l= .inr ys->∀y∈ys,∃v∈l,∃q,cU m v.1=some q/\(zr q b v.2.1).2=0/\y=(zr q b v.2.1).1
 | [],ys,h,y,hy=>by cases h;cases hy
 |v::r,ys,h,y,hy=>by
  rw[jE] at h
  cases hf:cU m v.1 with
  |none=>rw[hf] at h;cases h
  |some q=>
   rw[hf] at h
   dsimp only at h
   cases hz:decide ((zr q b v.2.1).2=0) with
   |false=>rw[hz] at h;cases h
   |true=>
    rw[hz,Bool.not_true,zD] at h
    cases hr:jE m b r with
    |inl f=>rw[hr] at h;cases h
    |inr zs=>
     rw[hr] at h
     cases h
     rcases List.mem_cons.1 hy with rfl|hy
     ·exact⟨v,List.mem_cons_self,q,hf,of_decide_eq_true hz,rfl⟩
     ·obtain⟨w,hw,q',g⟩:=Ga hr y hy
      exact⟨w,List.mem_cons_of_mem _ hw,q',g⟩
theorem aeH(x y:aO):jr x y=jr y x:=by
 unfold jr
 have e1:(!decide (x.2.1=0)&&decide (x.2.1=y.2.1))=(!decide (y.2.1=0)&&decide (y.2.1=x.2.1)):=by
  by_cases h:x.2.1=y.2.1
  ·rw[h]
  ·rw[zF h,zF (show¬y.2.1=x.2.1 from fun e=>h e.symm),Bool.and_false,Bool.and_false]
 have e2:(!decide (x.2.2.1=0)&&decide (x.2.2.1=y.2.2.1))=(!decide (y.2.2.1=0)&&decide (y.2.2.1=x.2.2.1)):=by
  by_cases h:x.2.2.1=y.2.2.1
  ·rw[h]
  ·rw[zF h,zF (show¬y.2.2.1=x.2.2.1 from fun e=>h e.symm),Bool.and_false,Bool.and_false]
 rw[e1,e2]
theorem zip:∀{l prev:List aO},BQ prev l->l.Pairwise (fun x y=>jr x y=false)/\∀p∈prev,∀x∈l,jr p x=false
 | [],prev,h=>⟨List.Pairwise.nil,fun _ _ x hx=>by cases hx⟩
 |r::l,prev,h=>by
  obtain⟨h1,h2⟩:=h
  obtain⟨i1,i2⟩:=zip h2
  have hp:∀p∈prev,jr p r=false:=fun p hp=>by
   have:=List.any_eq_false.1 h1 p hp
   simpa using this
  refine⟨List.pairwise_cons.2 ⟨fun y hy=>i2 r (by simp) y hy,i1⟩,fun p hp' x hx=> ?_⟩
  rcases List.mem_cons.1 hx with rfl|hx
  ·exact hp p hp'
  ·exact i2 p (by simp [hp']) x hx
theorem zj8{x y:aO}(h:jr x y=false)(hx:x.2.2.1≠0):x.2.2.1≠y.2.2.1:=by
 intro e
 unfold jr at h
 rw[Bool.or_eq_false_iff] at h
 have:=h.2
 rw[zF hx,zT e] at this
 cases this
theorem zrf{l:List aO}(h:l.Pairwise fun x y=>jr x y=false):∀x∈l,∀y∈l,x≠y->jr x y=false:=by
 induction l with
 |nil=>intro x hx;cases hx
 |cons r l ih=>
  obtain⟨h1,h2⟩:=List.pairwise_cons.1 h
  intro x hx y hy bK
  rcases List.mem_cons.1 hx with e1|hx1
  ·rcases List.mem_cons.1 hy with e2|hy1
   ·exact absurd (e1.trans e2.symm) bK
   ·rw[e1];exact h1 y hy1
  ·rcases List.mem_cons.1 hy with e2|hy1
   ·rw[aeH,e2];exact h1 x hx1
   ·exact ih h2 x hx1 y hy1 bK
theorem yw{s:zf}:∀{l:List bg} {last:Int},td s l last=none↔(∀v∈l,bm s v.1=true/\bp (aJ s v.1) v.2.1=0)/\ka l/\∀v∈l,last<v.1
 | [],last=>by simp [td,ka]
 |x::r,last=>by
  rw[td]
  by_cases h1:x.1<=last
  ·rw[zT h1,zC]
   refine⟨fun h=>(by cases h),fun h=> ?_⟩
   have:=h.2.2 x List.mem_cons_self
   omega
  rw[zF h1,zD]
  cases h2:bm s x.1 with
  |false=>
   refine⟨fun h=>(by cases h),fun h=> ?_⟩
   have:=(h.1 x List.mem_cons_self).1
   rw[h2] at this;cases this
  |true=>
   rw[Bool.not_true,zD]
   by_cases h3:bp (aJ s x.1) x.2.1=0
   ·rw[zT h3,Bool.not_true,zD,yw]
    constructor
    ·rintro⟨g1,g2,g3⟩
     refine⟨fun v hv=> ?_,List.pairwise_cons.2 ⟨g3,g2⟩,fun v hv=> ?_⟩
     ·rcases List.mem_cons.1 hv with rfl|hv
      ·exact⟨h2,h3⟩
      ·exact g1 v hv
     ·rcases List.mem_cons.1 hv with rfl|hv
      ·omega
      ·have:=g3 v hv;omega
    ·rintro⟨g1,g2,g3⟩
     have g2:=List.pairwise_cons.1 g2
     exact⟨fun v hv=>g1 v (List.mem_cons_of_mem _ hv),g2.2,g2.1⟩
   ·rw[zF h3,Bool.not_false,zC]
    refine⟨fun h=>(by cases h),fun h=> ?_⟩
    exact absurd (h.1 x List.mem_cons_self).2 h3
theorem zib{s:zf}:∀{l:List bg} {last:Int} {f:bL},td s l last=some f->f.1≠0
 | [],last,f,h=>by cases h
 |x::r,last,f,h=>by
  rw[td] at h
  cases h1:decide (x.1<=last) with
  |true=>rw[h1] at h;cases h;exact(by decide:(11:Int)≠0)
  |false=>
   rw[h1,zD] at h
   cases h2:bm s x.1 with
   |false=>rw[h2] at h;cases h;exact(by decide:(9:Int)≠0)
   |true=>
    rw[h2,Bool.not_true,zD] at h
    by_cases h3:bp (aJ s x.1) x.2.1=0
    ·rw[zT h3,Bool.not_true,zD] at h
     exact zib h
    ·rw[zF h3,Bool.not_false,zC] at h
     cases h
     exact h3
structure gV(s:zf)(m:bI):Prop where
 iK:(iM s).1=0
 right:gm m.1=true
 TC:gR m.1=s.2.1
 iB:td s m.2.1 0=none
theorem Ro{s:zf}{m:bI}:(gZ s m).1=0↔gV s m:=by
 unfold gZ
 by_cases h1:(iM s).1=0
 ·rw[zT h1,Bool.not_true,zD]
  cases h2:gm m.1 with
  |false=>exact⟨fun h=>absurd h (show¬(7:Int)=0 by decide),fun h=>by have:=h.right;rw[h2] at this;cases this⟩
  |true=>
   rw[Bool.not_true,zD]
   by_cases h3:gR m.1=s.2.1
   ·rw[zT h3,Bool.not_true,zD]
    cases h4:td s m.2.1 0 with
    |none=>exact⟨fun _=>⟨h1,h2,h3,h4⟩,fun _=>rfl⟩
    |some f=>exact⟨fun h=>absurd h (zib h4),fun h=>by have:=h.iB;rw[h4] at this;cases this⟩
   ·rw[zF h3]
    exact⟨fun h=>absurd h (show¬(7:Int)=0 by decide),fun h=>absurd h.TC h3⟩
 ·rw[zF h1]
  exact⟨fun h=>absurd h (show¬(1:Int)=0 by decide),fun h=>absurd h.iK h1⟩
theorem gV.eq{s:zf}{m:bI}(h:gV s m):gZ s m=hJ:=by
 unfold gZ
 rw[zT h.iK,h.right,zT h.TC,h.iB];rfl
theorem z49{s:zf}(h:gW s){no:Int}(hh:bm s no=true):2<=no/\no<=128:=by
 have:=(TK (Rd h hh)).1
 rw[(Uq hh).2] at this
 exact this
theorem QZ{q:aO}{b:zf}{t:ByteArray}(h:(zr q b t).2=0)(hz:(zr q b t).1.1≠0):q.1≠2/\(zr q b t).1.1=q.2.2.1:=by
 unfold zr at h hz⊢
 by_cases k1:q.1=1
 ·rw[zT k1,zC];exact⟨by omega,rfl⟩
 rw[zF k1,zD] at h hz⊢
 by_cases k2:q.1=2
 ·rw[zT k2,zC] at hz;exact absurd rfl hz
 rw[zF k2,zD] at h hz⊢
 refine⟨k2,?_⟩
 by_cases k3:q.1=3
 ·rw[zT k3,zC]
 rw[zF k3,zD] at h hz⊢
 by_cases k4:q.1=4
 ·rw[zT k4,zC] at h hz⊢
  cases hs:bm b q.2.2.1 with
  |false=>rw[hs] at h;cases h
  |true=>
   rw[hs] at h
   rw[Bool.not_true,zD] at h⊢
   cases hp:(dm t (aJ b q.2.2.1).2.2.2.1).2 with
   |false=>rw[hp] at h;cases h
   |true=>rfl
 rw[zF k4,zD] at h hz⊢
 by_cases k5:q.1=5
 ·rw[zT k5,zC] at h hz⊢
  cases hp:(zq q.2.2.2.2.1 t).2 with
  |false=>rw[hp] at h;cases h
  |true=>rfl
 ·rw[zF k5,zD] at hz;exact absurd rfl hz
theorem HV{l:List bg}{v:bg}:v∈cE l↔v∈l/\v.1≠0:=by
 unfold cE
 rw[List.mem_filter]
 simp
section
variable {m:Map} {a b:zf}
theorem dY.ff(h:dY m a b):m.2.1.Pairwise fun x y=>jr x y=false:=(zip h.q7).1
theorem dY.okA(h:dY m a b):gW a:=(vX a).1 h.sa
theorem dY.okB(h:dY m a b):gW b:=(vX b).1 h.sb
theorem dY.to(h:dY m a b){r:aO}(hr:r∈m.2.1)(k:r.1≠2):bm b r.2.2.1=true:=(zi8 (TR (h.rules r hr)).2.1).2.2.2 k
theorem dY.Me(h:dY m a b){r:aO}(hr:r∈m.2.1)(k:r.1≠2):r.2.2.1≠0:=by
 have:=z49 h.okB (h.to hr k)
 omega
theorem OX(h:dY m a b):∀{l ys:List bg},ka l->jE m b l= .inr ys->kg (cE ys)
 | [],ys,_,hy=>by cases hy;exact List.Pairwise.nil
 |v::r,ys,hr,hy=>by
  rw[jE] at hy
  have hr:=List.pairwise_cons.1 hr
  cases hf:cU m v.1 with
  |none=>rw[hf] at hy;cases hy
  |some q=>
   rw[hf] at hy
   dsimp only at hy
   cases hz:decide ((zr q b v.2.1).2=0) with
   |false=>rw[hz] at hy;cases hy
   |true=>
    rw[hz,Bool.not_true,zD] at hy
    cases hv:jE m b r with
    |inl f=>rw[hv] at hy;cases hy
    |inr zs=>
     rw[hv] at hy
     cases hy
     have ih:=OX h hr.2 hv
     unfold cE at ih⊢
     rw[List.filter_cons]
     split
     ·rename_i hnz
      have hnz:(zr q b v.2.1).1.1≠0:=by simpa using hnz
      refine List.pairwise_cons.2 ⟨fun z hzm=> ?_,ih⟩
      obtain⟨z1,z2⟩:=HV.1 hzm
      obtain⟨w,hw,q',hf',h0',rfl⟩:=Ga hv z z1
      obtain⟨a1,a2⟩:=QZ (of_decide_eq_true hz) hnz
      obtain⟨b1,b2⟩:=QZ h0' z2
      rw[a2,b2]
      obtain⟨qm,qf⟩:=Gg hf
      obtain⟨qm',qf'⟩:=Gg hf'
      have al:=hr.1 w hw
      have bK:q≠q':=fun e=>by subst e;omega
      exact zj8 (zrf h.ff q qm q' qm' bK) (h.Me qm a1)
     ·exact ih
theorem HQ{l:List aO}{v:bg}:v∈il l↔∃r∈l,r.1=3/\v=(r.2.2.1,r.2.2.2.1,()):=by
 unfold il
 rw[List.mem_map]
 constructor
 ·rintro⟨r,hr,rfl⟩
  rw[List.mem_filter] at hr
  exact⟨r,hr.1,of_decide_eq_true hr.2,rfl⟩
 ·rintro⟨r,hr,k,rfl⟩
  exact⟨r,List.mem_filter.2 ⟨hr,zT k⟩,rfl⟩
theorem acE(h:dY m a b):kg (il m.2.1):=by
 unfold il
 refine List.pairwise_map.2 ?_
 refine List.Pairwise.imp_of_mem ?_ (h.ff.filter _)
 intro x y hx hy Bj
 have hx:=List.mem_filter.1 hx
 have k:x.1=3:=of_decide_eq_true hx.2
 exact zj8 Bj (h.Me hx.1 (by omega))
theorem adb(h:dY m a b){l ys:List bg}(hl:∀v∈l,bm a v.1=true)(hy:jE m b l= .inr ys):∀c∈il m.2.1,∀y∈cE ys,c.1≠y.1:=by
 intro c hc y hym
 obtain⟨r,hr,k,rfl⟩:=HQ.1 hc
 obtain⟨y1,y2⟩:=HV.1 hym
 obtain⟨w,hw,q,hf,h0,rfl⟩:=Ga hy y y1
 obtain⟨b1,b2⟩:=QZ h0 y2
 rw[b2]
 obtain⟨qm,qf⟩:=Gg hf
 have hwr:=z49 h.okA (hl w hw)
 have hz:=(zi8 (TR (h.rules r hr)).2.1).1 k
 have bK:r≠q:=fun e=>by subst e;omega
 exact zj8 (zrf h.ff r hr q qm bK) (h.Me hr (by omega))
theorem Mq(h:dY m a b){l ys:List bg}(hr:ka l)(hl:∀v∈l,bm a v.1=true)(hy:jE m b l= .inr ys):kg (il m.2.1++cE ys):=
 List.pairwise_append.2 ⟨acE h,OX h hr hy,adb h hl hy⟩
theorem Mr(h:dY m a b){l ys:List bg}(hy:jE m b l= .inr ys):∀v∈il m.2.1++cE ys,bm b v.1=true:=by
 intro v hv
 rcases List.mem_append.1 hv with hv|hv
 ·obtain⟨r,hr,k,rfl⟩:=HQ.1 hv
  exact h.to hr (by omega)
 ·obtain⟨y1,y2⟩:=HV.1 hv
  obtain⟨w,hw,q,hf,h0,rfl⟩:=Ga hy v y1
  obtain⟨b1,b2⟩:=QZ h0 y2
  rw[b2]
  exact h.to (Gg hf).1 b1
end
def lB(vs:List bg):Nat->Nat->List bg
 |0,_=>[]
 |n+1,k=>(vs.filter fun v=>decide (v.1=(k:Int)))++lB vs n (k+1)
theorem TM{vs:List bg}{v:bg}:∀{n k:Nat},v∈lB vs n k↔v∈vs/\(k:Int)<=v.1/\v.1<((k+n:Nat):Int)
 |0,k=>by simp only[lB,List.not_mem_nil,false_iff];omega
 |n+1,k=>by
  rw[lB,List.mem_append,List.mem_filter,decide_eq_true_eq,TM]
  constructor
  ·rintro(⟨h1,h2⟩|⟨h1,h2,h3⟩)
   ·exact⟨h1,by omega,by omega⟩
   ·exact⟨h1,by omega,by omega⟩
  ·rintro⟨h1,h2,h3⟩
   by_cases e:v.1=(k:Int)
   ·exact .inl ⟨h1,e⟩
   ·exact .inr ⟨h1,by omega,by omega⟩
theorem zdl{vs:List bg}(h:kg (cE vs)):∀(n k:Nat),1<=k->ka (lB vs n k)
 |0,k,_=>List.Pairwise.nil
 |n+1,k,hk=>by
  rw[lB]
  refine List.pairwise_append.2 ⟨?_,zdl h n (k+1) (by omega),fun x hx y hy=> ?_⟩
  ·have e:(vs.filter fun v=>decide (v.1=(k:Int)))=(cE vs).filter fun v=>decide (v.1=(k:Int)):=by
    unfold cE
    rw[List.filter_filter]
    congr 1
    funext v
    by_cases hv:v.1=(k:Int)
    ·rw[zT hv,zF (by omega:¬v.1=0)];rfl
    ·rw[zF hv];rfl
   rw[e]
   refine List.Pairwise.imp_of_mem ?_ (h.filter _)
   intro x y hx hy bK
   have h1:=of_decide_eq_true (List.mem_filter.1 hx).2
   have h2:=of_decide_eq_true (List.mem_filter.1 hy).2
   omega
  ·have h1:=of_decide_eq_true (List.mem_filter.1 hx).2
   have h2:=(TM.1 hy).2.1
   omega
def ZV(m:Map)(a b:zf)(x:bI):bI×bL:=
 bif !decide ((dG m a b).1=0) then(dH,(1,-1,())) else bif !decide ((gZ a x).1=0) then(dH,gZ a x) else bif !(zq m.1 x.1).2 then(dH,(7,0,()))
 else match jE m b x.2.1 with
  | .inl f=>(dH,f)
  | .inr ys=>(((zq m.1 x.1).1,lB (ys++il m.2.1) 127 2,()),hJ)
theorem zj4(l r:List bg):cE (l++r)=cE l++cE r:=by unfold cE;rw[List.filter_append]
theorem zj5{m:Map}{a b:zf}(h:dY m a b):cE (il m.2.1)=il m.2.1:=by
 unfold cE
 refine List.filter_eq_self.2 fun v hv=> ?_
 obtain⟨r,hr,k,rfl⟩:=HQ.1 hv
 have:=h.Me hr (by omega)
 simpa using this
theorem zve{l r:List bg}(h:kg (l++r)):kg (r++l):=by
 obtain⟨h1,h2,h3⟩:=List.pairwise_append.1 h
 exact List.pairwise_append.2 ⟨h2,h1,fun x hx y hy e=>h3 y hy x hx e.symm⟩
theorem agN{m:Map}{a b:zf}(h:dY m a b){l ys:List bg}(hr:ka l)(hl:∀v∈l,bm a v.1=true)(hy:jE m b l= .inr ys)(t:ByteArray):
 tg (cE ys) (sI m.2.1 (t,[],()))=(t,lB (ys++il m.2.1) 127 2,()):=by
 rw[zav,<-ze5]
 have AQ:=Mq h hr hl hy
 have hs:cE (ys++il m.2.1)=cE ys++il m.2.1:=by rw[zj4,zj5 h]
 refine an0.2 ⟨zp8 _ _,?_⟩
 refine ET (zwm _ List.Pairwise.nil) (zdl (by rw[hs];exact zve AQ) 127 2 (by omega)) fun v=> ?_
 rw[zwl _ _ AQ (fun _ _ w hw=>by cases hw) v,TM]
 constructor
 ·rintro(hv|hv)
  ·cases hv
  ·have hb:=z49 h.okB (Mr h hy v hv)
   refine⟨?_,by omega,by omega⟩
   rcases List.mem_append.1 hv with hv|hv
   ·exact List.mem_append_right _ hv
   ·exact List.mem_append_left _ (HV.1 hv).1
 ·rintro⟨hv,h1,h2⟩
  right
  rcases List.mem_append.1 hv with hv|hv
  ·exact List.mem_append_right _ (HV.2 ⟨hv,by omega⟩)
  ·exact List.mem_append_left _ hv
theorem zww(m:Map)(a b:zf)(x:bI):mU m a b x=ZV m a b x:=by
 unfold mU ZV
 by_cases h1:(dG m a b).1=0
 ·rw[zT h1,Bool.not_true,zD,zD]
  by_cases h2:(gZ a x).1=0
  ·rw[zT h2,Bool.not_true,zD,zD]
   cases(zq m.1 x.1).2 with
   |false=>rfl
   |true=>
    rw[Bool.not_true,zD,zD]
    obtain⟨g1,g2,g3⟩:=yw.1 (Ro.1 h2).iB
    rcases zay m b x.2.1 (sI m.2.1 ((zq m.1 x.1).1,[],())) with⟨f,o,e1,e2⟩|⟨ys,e1,e2⟩
    ·rw[e1,e2]
    ·rw[e1,e2]
     dsimp only
     rw[agN (Rn.1 h1) g2 (fun v hv=>(g1 v hv).1) e2]
  ·rw[zF h2];rfl
 ·rw[zF h1];rfl
end bj

namespace bj
open Go.IntKind renaming wrap->zW,i64->zI,u8->zU
open Go Go.Ref
theorem ac7{r:aO}{b:zf}{t:ByteArray}(ht:t.size<=1099511627776)(hr:fm r):(zr r b t).1.2.1.size<=1099511627776:=by
 have h0:(bs []).size<=1099511627776:=by decide
 unfold zr
 cases decide (r.1=1) with
 |true=>exact ht
 |false=>
  rw[zD]
  cases decide (r.1=2) with
  |true=>exact h0
  |false=>
   rw[zD]
   cases decide (r.1=3) with
   |true=>exact hr.text
   |false=>
    rw[zD]
    cases decide (r.1=4) with
    |true=>
     rw[zC]
     cases bm b r.2.2.1 with
     |false=>exact h0
     |true=>
      rw[Bool.not_true,zD]
      cases hp:(dm t (aJ b r.2.2.1).2.2.2.1).2 with
      |false=>exact h0
      |true=>
       obtain⟨p1,p2,p3,p4⟩:=PU hp
       show(dm t (aJ b r.2.2.1).2.2.2.1).1.size<=_
       omega
    |false=>
     rw[zD]
     cases decide (r.1=5) with
     |true=>
      rw[zC]
      cases hp:(zq r.2.2.2.2.1 t).2 with
      |false=>exact h0
      |true=>
       obtain⟨p,hm,_,hq⟩:=z85 hp
       show(zq r.2.2.2.2.1 t).1.size<=_
       rw[hq]
       exact(hr.ff.sz p hm).2
     |false=>exact h0
theorem zic{m:Map}{b:zf}:∀{l:List bg} {f:bL},jE m b l= .inl f->f.1≠0
 | [],f,h=>by cases h
 |v::r,f,h=>by
  rw[jE] at h
  cases hf:cU m v.1 with
  |none=>rw[hf] at h;cases h;exact(by decide:(9:Int)≠0)
  |some q=>
   rw[hf] at h
   dsimp only at h
   by_cases hz:(zr q b v.2.1).2=0
   ·rw[zT hz,Bool.not_true,zD] at h
    cases hr:jE m b r with
    |inl g=>rw[hr] at h;cases h;exact zic hr
    |inr ys=>rw[hr] at h;cases h
   ·rw[zF hz,Bool.not_false,zC] at h
    cases h;exact hz
structure b6(m:Map)(a b:zf)(x:bI)(ys:List bg):Prop where
 map:dY m a b
 msg:gV a x
 head:(zq m.1 x.1).2=true
 pw:jE m b x.2.1= .inr ys
theorem zb6(m:Map)(a b:zf)(x:bI):(∃f,f.1≠0/\mU m a b x=(dH,f))\/∃ys,b6 m a b x ys/\mU m a b x=(((zq m.1 x.1).1,lB (ys++il m.2.1) 127 2,()),hJ):=by
 rw[zww]
 unfold ZV
 by_cases h1:(dG m a b).1=0
 ·rw[zT h1,Bool.not_true,zD]
  by_cases h2:(gZ a x).1=0
  ·rw[zT h2,Bool.not_true,zD]
   cases h3:(zq m.1 x.1).2 with
   |false=>exact .inl ⟨_,by decide,rfl⟩
   |true=>
    rw[Bool.not_true,zD]
    cases h4:jE m b x.2.1 with
    |inl f=>exact .inl ⟨f,zic h4,rfl⟩
    |inr ys=>exact .inr ⟨ys,⟨Rn.1 h1,Ro.1 h2,h3,h4⟩,rfl⟩
  ·rw[zF h2];exact .inl ⟨_,h2,rfl⟩
 ·rw[zF h1];exact .inl ⟨_,by decide,rfl⟩
theorem b6.eq{m:Map}{a b:zf}{x:bI}{ys:List bg}(h:b6 m a b x ys):mU m a b x=(((zq m.1 x.1).1,lB (ys++il m.2.1) 127 2,()),hJ):=by
 rw[zww]
 unfold ZV
 rw[zT (Rn.2 h.map),Bool.not_true,zD,zT (Ro.2 h.msg),Bool.not_true,zD,h.head,h.pw]
 rfl
section
variable {m:Map} {a b:zf} {x:bI} {ys:List bg}
theorem b6.iB(h:b6 m a b x ys):(∀v∈x.2.1,bm a v.1=true/\bp (aJ a v.1) v.2.1=0)/\ka x.2.1/\∀v∈x.2.1,0<v.1:=yw.1 h.msg.iB
theorem b6.ris(h:b6 m a b x ys):ka (lB (ys++il m.2.1) 127 2):=by
 obtain⟨g1,g2,g3⟩:=h.iB
 refine zdl ?_ 127 2 (by omega)
 rw[zj4,zj5 h.map]
 exact zve (Mq h.map g2 (fun v hv=>(g1 v hv).1) h.pw)
theorem b6.mem(h:b6 m a b x ys)(v:bg):v∈lB (ys++il m.2.1) 127 2↔v∈il m.2.1\/(v∈ys/\v.1≠0):=by
 rw[TM,List.mem_append]
 have hr:=Mr h.map h.pw
 constructor
 ·rintro⟨h1|h1,h2,h3⟩
  ·exact .inr ⟨h1,by omega⟩
  ·exact .inl h1
 ·rintro(h1|⟨h1,h2⟩)
  ·have:=z49 h.map.okB (hr v (List.mem_append_left _ h1))
   exact⟨.inr h1,by omega,by omega⟩
  ·have:=z49 h.map.okB (hr v (List.mem_append_right _ (HV.2 ⟨h1,h2⟩)))
   exact⟨.inl h1,by omega,by omega⟩
theorem b6.valid(h:b6 m a b x ys)(hm:dz m)(hx:eC x):∀v∈lB (ys++il m.2.1) 127 2,bm b v.1=true/\v.2.1.size<=1099511627776/\bp (aJ b v.1) v.2.1=0:=by
 intro v hv
 obtain⟨g1,g2,g3⟩:=h.iB
 rcases(h.mem v).1 hv with hv|⟨hv,hz⟩
 ·obtain⟨r,hr,k,rfl⟩:=HQ.1 hv
  have hc:=(TR (h.map.rules r hr)).2.2.2
  unfold jh at hc
  rw[zF (by omega:¬r.1=1),zT k,zD,zC] at hc
  exact⟨h.map.to hr (by omega),(hm.rules r hr).text,hc⟩
 ·obtain⟨w,hw,q,hf,h0,rfl⟩:=Ga h.pw v hv
  obtain⟨b1,b2⟩:=QZ h0 hz
  obtain⟨qm,qf⟩:=Gg hf
  have hwt:=hx.q9 w hw
  have:=(ac8 (r:=q) (a:=a) (b:=b) hwt (hm.rules q qm) (h.map.rules q qm) h.map.okB (fun _=>by rw[qf];exact(g1 w hw).2)).2 h0
  obtain⟨e1,e2,e3⟩:=this.2 b1
  rw[b2]
  exact⟨e2,ac7 hwt (hm.rules q qm),e3⟩
theorem aiq{t:ByteArray}{v:Int}(h:jm t v=true):gm t=true/\gR t=v:=by
 unfold jm at h
 rw[Bool.and_eq_true,decide_eq_true_eq] at h
 refine⟨h.1,?_⟩
 unfold gR
 rw[h.1];exact h.2
theorem b6.vl(h:b6 m a b x ys):gm (zq m.1 x.1).1=true/\gR (zq m.1 x.1).1=b.2.1:=by
 obtain⟨p,hp,_,e⟩:=z85 h.head
 have ht:=h.map.typed p hp
 unfold mV at ht
 rw[Bool.and_eq_true,Bool.and_eq_true] at ht
 rw[e]
 exact aiq ht.2.1
theorem b6.out(h:b6 m a b x ys)(hm:dz m)(hx:eC x):gV b ((zq m.1 x.1).1,lB (ys++il m.2.1) 127 2,()):=by
 have hv:=h.valid hm hx
 refine⟨h.map.sb,h.vl.1,h.vl.2,yw.2 ⟨fun v hm=>⟨(hv v hm).1,(hv v hm).2.2⟩,h.ris,fun v hm=> ?_⟩⟩
 have:=z49 h.map.okB (hv v hm).1
 omega
end
theorem EU:∀{l:List bg} {lo:Int},ka l->(∀v∈l,lo<v.1/\v.1<=128)->(l.length:Int)<=max 0 (128-lo)
 | [],lo,_,_=>by simp;omega
 |x::r,lo,h,hr=>by
  have h:=List.pairwise_cons.1 h
  have hx:=hr x List.mem_cons_self
  have:=EU (l:=r) (lo:=x.1) h.2 (fun v hv=>⟨h.1 v hv,(hr v (List.mem_cons_of_mem _ hv)).2⟩)
  simp only[List.length_cons]
  omega
theorem b6.ok{m:Map}{a b:zf}{x:bI}{ys:List bg}(h:b6 m a b x ys)(hm:dz m)(hx:eC x):eC ((zq m.1 x.1).1,lB (ys++il m.2.1) 127 2,()):=by
 have hv:=h.valid hm hx
 refine⟨?_,?_,fun v jK=>(hv v jK).2.1⟩
 ·have:=(pA.1 h.vl.1).1
  show(zq m.1 x.1).1.size<=_
  omega
 ·have:=EU (lo:=0) h.ris (fun v jK=>by have:=z49 h.map.okB (hv v jK).1;omega)
  show(lB (ys++il m.2.1) 127 2).length<=_
  omega
def K0(m:Map)(b:zf)(v:bg):Prop:=∃q,cU m v.1=some q/\(zr q b v.2.1).2=0
theorem QS{m:Map}{b:zf}:∀{l:List bg},(∃ys,jE m b l= .inr ys)↔∀v∈l,K0 m b v
 | []=>⟨fun _ v hv=>(by cases hv),fun _=>⟨[],rfl⟩⟩
 |v::r=>by
  rw[jE]
  constructor
  ·rintro⟨ys,h⟩ w hw
   cases hf:cU m v.1 with
   |none=>rw[hf] at h;cases h
   |some q=>
    rw[hf] at h
    dsimp only at h
    cases hz:decide ((zr q b v.2.1).2=0) with
    |false=>rw[hz] at h;cases h
    |true=>
     rw[hz,Bool.not_true,zD] at h
     rcases List.mem_cons.1 hw with rfl|hw
     ·exact⟨q,hf,of_decide_eq_true hz⟩
     ·cases hr:jE m b r with
      |inl g=>rw[hr] at h;cases h
      |inr zs=>exact QS.1 ⟨zs,hr⟩ w hw
  ·intro h
   obtain⟨q,hf,hz⟩:=h v List.mem_cons_self
   obtain⟨zs,hr⟩:=QS.2 fun w hw=>h w (List.mem_cons_of_mem _ hw)
   rw[hf,hr]
   dsimp only
   rw[zT hz]
   exact⟨_,rfl⟩
theorem zds{m:Map}{b:zf}:∀{l ys:List bg},jE m b l= .inr ys->∀v∈l,∃q,cU m v.1=some q/\(zr q b v.2.1).2=0/\(zr q b v.2.1).1∈ys
 | [],ys,h,v,hv=>by cases hv
 |x::r,ys,h,v,hv=>by
  rw[jE] at h
  cases hf:cU m x.1 with
  |none=>rw[hf] at h;cases h
  |some q=>
   rw[hf] at h
   dsimp only at h
   cases hz:decide ((zr q b x.2.1).2=0) with
   |false=>rw[hz] at h;cases h
   |true=>
    rw[hz,Bool.not_true,zD] at h
    cases hr:jE m b r with
    |inl f=>rw[hr] at h;cases h
    |inr zs=>
     rw[hr] at h
     cases h
     rcases List.mem_cons.1 hv with rfl|hv
     ·exact⟨q,hf,of_decide_eq_true hz,List.mem_cons_self⟩
     ·obtain⟨q',g1,g2,g3⟩:=zds hr v hv
      exact⟨q',g1,g2,List.mem_cons_of_mem _ g3⟩
theorem b6.part{m:Map}{a b:zf}{x:bI}{ys:List bg}(h:b6 m a b x ys){l:List bg}(hl:List.Sublist l x.2.1):∃zs,b6 m a b (x.1,l,()) zs:=by
 obtain⟨g1,g2,g3⟩:=h.iB
 obtain⟨zs,hz⟩:=QS.2 fun v hv=>QS.1 ⟨ys,h.pw⟩ v (hl.subset hv)
 exact⟨zs,h.map,⟨h.msg.iK,h.msg.right,h.msg.TC,yw.2 ⟨fun v hv=>g1 v (hl.subset hv),g2.sublist hl,fun v hv=>g3 v (hl.subset hv)⟩⟩,h.head,hz⟩
end bj

namespace bj
open Go.IntKind renaming wrap->zW,i64->zI,u8->zU
open Go Go.Ref
def fu(style:Int)(m:ByteArray):ByteArray:=if style=1 then m else(rl m).1
def gf(s:zf):List bg->ByteArray
 | []=>bs []
 |v::r=>(ri s.1 (aJ s v.1) v.2.1).1++gf s r
def dk(m:bI):List Int:=m.2.1.map fun v=>v.1
def dE(s:zf)(m:bI):ByteArray:=fu s.1 m.1++(dA s.1 (cR (dk m)) (cY (dk m))).1++gf s m.2.1
theorem ahF(m:bI)(h:m.2.1.length<=1000000):tO m=some ((cR (dk m):Int),(cY (dk m):Int),()):=by
 unfold tO VO
 dsimp only
 have key:∀(l:List bg) (i:Int) (p:List Int),bB (fun i (x:bg) (b:wD) K=>(yW b x.1).bind fun r1=>K r1) (fun b=>some (((0:Int),(0:Int),()),b)) l i ((cR p:Int),(cY p:Int),())=some (((0:Int),(0:Int),()),((cR (p++l.map fun v=>v.1):Int),(cY (p++l.map fun v=>v.1):Int),())):=by
  intro l
  induction l with
  |nil=>intro i p;rw[List.map_nil,List.append_nil];rfl
  |cons x r ih=>
   intro i p
   rw[bB,Pt _ _ (sJ p) (sK p),zc]
   have e1:cR p|||js x.1=cR (p++ [x.1]):=by unfold cR;rw[List.foldl_append];rfl
   have e2:cY p|||jt x.1=cY (p++ [x.1]):=by unfold cY;rw[List.foldl_append];rfl
   rw[e1,e2]
   dsimp only
   rw[ih (i+1) (p++ [x.1]),List.map_cons,List.append_assoc];rfl
 have:=cD nZ m.2.1 (by rw[zh];omega) (fun i (x:bg) (b:wD) K=>(yW b x.1).bind fun r1=>K r1) (fun b=>some (((0:Int),(0:Int),()),b)) (fun k i b=>RH k m.2.1 (m.2.1.length:Int) i ((0:Int),(0:Int),()) b) (fun k i b=>rfl) ((0:Int),(0:Int),())
 rw[this]
 have k2:=key m.2.1 0 []
 rw[show cR []=0 from rfl,show cY []=0 from rfl] at k2
 rw[show((0:Nat):Int)=0 from rfl] at k2
 rw[k2];rfl
theorem aim(style:Int)(m:ByteArray):(fu style m).size<=m.size+500:=by
 unfold fu
 split
 ·omega
 ·have:=zhs m;omega
theorem adW(style:Int)(h l:Nat):(dA style h l).1.size<=32:=by
 have hz:iO style<=16:=by unfold iO;split<;>omega
 unfold dA
 split
 ·dsimp only
  split
  ·rw[BK];omega
  ·rw[j7,BK,BK];omega
 ·exact Nat.zero_le _
theorem acB(style:Int)(s:Spec)(t:ByteArray):(ri style s t).1.size<=2*t.size+1000:=by
 unfold ri
 split
 ·exact Nat.zero_le _
 ·split
  ·exact Nat.zero_le _
  ·dsimp only
   rw[j7]
   have:=Nq style s.2.2.1 t.size
   have:=z138 (cF style s.2.1) t
   omega
structure hN(m:bI):Prop where
 vl:m.1.size<=1000
 len:m.2.1.length<=1000
 q9:∀v∈m.2.1,v.2.1.size<=1000
theorem hN.ok{m:bI}(h:hN m):eC m:=⟨by have:=h.vl;omega,by have:=h.len;omega,fun v hv=>by have:=h.q9 v hv;omega⟩
theorem zwf{s:zf}{m:bI}(hm:eC m)(h:gV s m):hN m:=by
 have ho:=(vX s).1 h.iK
 obtain⟨f1,f2,f3⟩:=yw.1 h.iB
 refine⟨by have:=(pA.1 h.right).1;omega,?_,fun v hv=> ?_⟩
 ·have:=EU (lo:=0) f2 (fun v hv=>by
   have:=Uv (Rd ho (f1 v hv).1)
   have e:=(Uq (f1 v hv).1).2
   rw[e] at this
   exact⟨by omega,by omega⟩)
  omega
 ·obtain⟨v1,v2,v3,_,_⟩:=(BP _ _ (hm.q9 v hv)).1 (f1 v hv).2
  have:=Ip v1
  omega
theorem EY{x o:ByteArray}(h:o.size+x.size<=140737488355328):ko x o=some (o++x):=by
 unfold ko W4 z24
 rw[zT h,zC,zc]
theorem N7(s:zf)(hs:s.2.2.1.length<=maxLen)(f:bL):∀(l:List bg) (i:Int) (o:ByteArray),(∀v∈l,v.2.1.size<=1000)->o.size+3000*l.length<=100000000->
 bB (fun i (x:bg) (o:ByteArray) K=>(gn s x.1).bind fun r7=>(B9 s.1 r7.1 x.2.1).bind fun r8=>(ko r8.1 o).bind fun r9=>K r9) (fun o=>some (f,o)) l i o=some (f,o++gf s l)
 | [],i,o,_,_=>by rw[gf,z124];rfl
 |x::r,i,o,h,ho=>by
  have hx:=h x List.mem_cons_self
  have hc:=acB s.1 (aJ s x.1) x.2.1
  rw[List.length_cons] at ho
  rw[bB,BM s _ hs,zc,adY _ _ _ (by omega),zc]
  dsimp only
  rw[EY (by omega),zc]
  rw[N7 s hs f r (i+1) _ (fun v hv=>h v (List.mem_cons_of_mem _ hv)) (by rw[j7];omega),gf,ByteArray.append_assoc]
theorem alW(style:Int)(m:ByteArray)(hm:gm m=true)(hs:style=1\/style=2):∃k,uo style m=some (fu style m,k):=by
 have h4:=(pA.1 hm).1
 unfold uo W5 fu
 rw[zb1 m (by rw[zh];omega),zc,hm,Bool.not_true,zD]
 rcases hs with rfl|rfl
 ·exact⟨true,rfl⟩
 ·rw[zF (by decide),zD,zT rfl,zC,zhr m (by rw[zh];omega),zc,if_neg (by decide)]
  exact⟨_,rfl⟩
def re(s:zf)(m:bI):ByteArray×bL:=if(gZ s m).1=0 then(dE s m,hJ) else(bs [],gZ s m)
theorem Mp(s:zf)(m:bI)(hs:s.2.2.1.length<=maxLen)(h:eC m):oM s m=some (re s m):=by
 unfold oM W3 re
 rw[zp5 s m hs h,zc]
 by_cases h0:(gZ s m).1=0
 case neg=>rw[zF h0,if_neg h0];rfl
 have hm:=Ro.1 h0
 have Bc:=zwf h hm
 have ho:=(vX s).1 hm.iK
 obtain⟨k,hk⟩:=alW s.1 m.1 hm.right ho.1
 have ht:=aim s.1 m.1
 have hb:=adW s.1 (cR (dk m)) (cY (dk m))
 have:=Bc.vl
 have:=Bc.len
 rw[zT h0,Bool.not_true,zD,if_pos h0,hk,zc,ahF m (by omega)]
 have w1:ko (fu s.1 m.1) (bs [])=some (fu s.1 m.1):=by
  rw[EY (by show 0+_<=_;omega),ZJ]
 have w2:ko (dA s.1 (cR (dk m)) (cY (dk m))).1 (fu s.1 m.1)=some (fu s.1 m.1++(dA s.1 (cR (dk m)) (cY (dk m))).1):=EY (by omega)
 dsimp only
 rw[w1,zc,zc,akz _ _ _ (sJ _) (sK _),zc,w2,zc]
 have hl:=cD nZ m.2.1 (by rw[zh];omega) (fun i (x:bg) (o:ByteArray) K=>(gn s x.1).bind fun r7=>(B9 s.1 r7.1 x.2.1).bind fun r8=>(ko r8.1 o).bind fun r9=>K r9) (fun o=>some (hJ,o)) (fun k i o=>RW k m.2.1 (m.2.1.length:Int) i s hJ o) (fun k i o=>rfl) (fu s.1 m.1++(dA s.1 (cR (dk m)) (cY (dk m))).1)
 rw[hl,N7 s hs _ m.2.1 0 _ Bc.q9 (by rw[j7];omega)]
 rfl
end bj

set_option maxRecDepth 10000
namespace bj
open Go.IntKind renaming wrap->zW,i64->zI,u8->zU
open Go Go.Ref
def fw(style:Int):Nat:=if style=2 then 2 else 4
def gQ(style:Int)(b:ByteArray):ByteArray:=if style=2 then(kZ (b.extract 0 2) 4).1 else b.extract 0 4
def j6(s:zf)(b:ByteArray):Sum Int nu:=
 if b.size<fw s.1 then .inl 2 else if gm (gQ s.1 b)=true/\gR (gQ s.1 b)=s.2.1 then .inr (gQ s.1 b,fw s.1) else .inl 7
def gd(s:zf)(b:ByteArray):List Int->Nat->List bg->List bg×bL
 | [],a,o=>(o,if a<b.size then(12,129,()) else hJ)
 |no::r,a,o=>if bm s no=false then(o,(9,no,())) else if¬(n5 s.1 (aJ s no) b a).2.2=0 then(o,((n5 s.1 (aJ s no) b a).2.2,no,())) else gd s b r (n5 s.1 (aJ s no) b a).2.1.toNat (o++ [(no,(n5 s.1 (aJ s no) b a).1,())])
def mD(s:zf)(b t:ByteArray)(g:Nat×Nat×Int×Int):bI×bL:=
 if¬g.2.2.2=0 then((t,[],()),(g.2.2.2,1,())) else((t,(gd s b (elems g.1 g.2.1) g.2.2.1.toNat []).1,()),(gd s b (elems g.1 g.2.1) g.2.2.1.toNat []).2)
def KW(s:zf)(b:ByteArray):Sum Int nu->bI×bL
 | .inl e=>(dH,(e,0,()))
 | .inr q=>mD s b q.1 (cw s.1 b q.2)
def dZ(s:zf)(b:ByteArray):bI×bL:=if¬(iM s).1=0 then(dH,(1,-1,())) else KW s b (j6 s b)
def Dr:Sum Int nu->ByteArray×Int×Int
 | .inl e=>(bs [],0,e)
 | .inr q=>(q.1,(q.2:Int),0)
theorem ain(style:Int)(b:ByteArray):(gQ style b).size<=2000:=by
 unfold gQ
 split
 ·generalize hg:kZ (b.extract 0 2) 4=g
  obtain⟨t,e,i⟩:=g
  have:=zar hg
  dsimp only;omega
 ·rw[ByteArray.size_extract];omega
theorem NE(s:zf)(t:ByteArray)(z:Nat)(ht:t.size<=2000):((jU t).bind fun r3=>(bif(!r3.2) then some (bs [],(0:Int),(7:Int)) else(bif(!(decide (r3.1=s.2.1))) then some (bs [],(0:Int),(7:Int)) else some (t,(z:Int),(0:Int)))))=some (Dr (if gm t=true/\gR t=s.2.1 then .inr (t,z) else .inl 7)):=by
 rw[TL t (by rw[zh];omega),zc]
 dsimp only
 cases hr:gm t with
 |false=>rfl
 |true=>
  rw[Bool.not_true,zD]
  by_cases hv:gR t=s.2.1
  ·rw[zT hv,if_pos ⟨rfl,hv⟩];rfl
  ·rw[zF hv,if_neg (fun h=>hv h.2)];rfl
theorem aio(s:zf)(b:ByteArray)(hb:b.size<=1099511627776):ug s b=some (Dr (j6 s b)):=by
 have h4:Q2 4=some 2:=by have:=QQ 4 (by decide) (by decide);exact this
 have e0:((2:Int)).toNat=2:=rfl
 have e4:((4:Int)).toNat=4:=rfl
 have lg:=ain s.1 b
 unfold ug WK j6
 by_cases h2:s.1=2
 ·have hz:fw 2=2:=rfl
  have hT:gQ 2 b=(kZ (b.extract 0 2) 4).1:=rfl
  rw[h2] at lg
  simp only[h2,decide_true,zC,h4,zc,e0]
  rw[hz]
  by_cases hc:b.size<2
  ·rw[zT (by omega),if_pos hc];rfl
  ·rw[zF (by omega),zD,zT (by decide),zC,zT (by omega),zC,if_neg hc,zhq _ _ (by rw[ByteArray.size_extract];omega),zc,<-hT]
   exact NE s (gQ 2 b) 2 lg
 ·have hz:fw s.1=4:=by unfold fw;rw[if_neg h2]
  have hT:gQ s.1 b=b.extract 0 4:=by unfold gQ;rw[if_neg h2]
  simp only[h2,decide_false,zD,e4]
  rw[hz]
  by_cases hc:b.size<4
  ·rw[zT (by omega),if_pos hc];rfl
  ·rw[zF (by omega),zD,zT (by omega),zC,if_neg hc,<-hT]
   exact NE s (gQ s.1 b) 4 lg
theorem adA{h l:Nat}{pre r:List Int}{no:Int}(he:elems h l=pre++no::r):ji h l no=r.headD 0:=by
 have hs:=TG h l
 rw[he] at hs
 have hp:=List.pairwise_append.1 hs
 have hq:=List.pairwise_cons.1 hp.2.1
 unfold ji
 rw[he,List.filter_append,List.filter_eq_nil_iff.2 (fun x hx=>by have:=hp.2.2 x hx no List.mem_cons_self;simp;omega),List.nil_append,List.filter_cons_of_neg (by simp),List.filter_eq_self.2 (fun x hx=>by have:=hq.1 x hx;simp;omega)]
theorem aep(h l:Nat):ji h l 0=(elems h l).headD 0:=by
 unfold ji
 rw[List.filter_eq_self.2 (fun x hx=>by have:=zig ((BL h l x).1 hx);simp;omega)]
theorem Uo(h l:Nat):(elems h l).length<=128:=by
 unfold elems
 exact Nat.le_trans (List.length_filter_le _ _) (by rw[als];exact Nat.le_refl _)
theorem agV{style:Int}{s:Spec}{b:ByteArray}{a:Nat}(hb:b.size<=1099511627776)(h:(n5 style s b a).2.2=0):(((n5 style s b a).2.1.toNat:Nat):Int)=(n5 style s b a).2.1:=by
 generalize hg:n5 style s b a=g at h⊢
 obtain⟨t,z,e⟩:=g
 dsimp only at h⊢
 subst h
 have:=(zdn hb hg).2.2.1
 omega
def KZ(b:ByteArray)(e:Sum (ByteArray×Int×bI×bL×bI) (ByteArray×Int×bI×bL×bI)):Option (bI×bL):=Sum.elim (fun we=>some (we.2.2.1,we.2.2.2.1)) (fun we=>bif(decide (we.2.1<(we.1.size:Int))) then some (we.2.2.2.2,((12:Int),(129:Int),())) else some (we.2.2.2.2,hJ)) e
theorem zpd(s:zf)(hs:s.2.2.1.length<=maxLen)(b t:ByteArray)(hb:b.size<=1099511627776)(h l:Nat)(hh:h<dj)(hl:l<dj):∀(r pre:List Int) (k a:Nat) (o:List bg),elems h l=pre++r->o.length<=pre.length->r.length<k->
 (GQ k b (a:Int) (r.headD 0) s dH hJ (t,o,()) ((h:Int),(l:Int),())).bind (KZ b)=some ((t,(gd s b r a o).1,()),(gd s b r a o).2)
 |r,pre,0,a,o,_,_,hk=>by omega
 | [],pre,k+1,a,o,he,ho,hk=>by
   unfold GQ RV gd
   rw[show([]:List Int).headD 0=0 from rfl,zT (p:=(0:Int)=0) rfl,Bool.not_true,zD,zc]
   unfold KZ
   rw[Sum.elim_inr]
   dsimp only
   by_cases hc:a<b.size
   ·rw[zT (by omega),if_pos hc];rfl
   ·rw[zF (by omega),if_neg hc];rfl
 |no::r,pre,k+1,a,o,he,ho,hk=>by
  have cz:no∈elems h l:=by rw[he];exact List.mem_append_right _ List.mem_cons_self
  have og:=zig ((BL h l no).1 cz)
  have hlen:=Uo h l
  rw[he,List.length_append,List.length_cons] at hlen
  rw[List.length_cons] at hk
  unfold GQ RV gd
  rw[show(no::r).headD 0=no from rfl,zF (by omega:¬no=0),Bool.not_false,zC,BM s _ hs,zc]
  dsimp only
  cases hf:bm s no with
  |false=>rfl
  |true=>
   rw[Bool.not_true,zD,if_neg (by decide),adX _ _ _ _ hb,zc]
   by_cases hz:(n5 s.1 (aJ s no) b a).2.2=0
   case neg=>rw[zF hz,if_pos hz];rfl
   rw[zT hz,Bool.not_true,zD,if_neg (fun h=>h hz),zT (by simp only[List.length_singleton];omega),zC,O1 h l hh hl no (by omega) (by omega),zc,adA he,<-agV hb hz]
   exact zpd s hs b t hb h l hh hl r (pre++ [no]) k _ _ (by rw[he,List.append_assoc];rfl) (by rw[List.length_append,List.length_append,List.length_singleton,List.length_singleton];omega) (by omega)
theorem aky{style:Int}{b:ByteArray}{a:Nat}(h:(cw style b a).2.2.2=0):(cw style b a).1<dj/\(cw style b a).2.1<dj/\(((cw style b a).2.2.1.toNat:Nat):Int)=(cw style b a).2.2.1:=by
 generalize hg:cw style b a=g at h⊢
 obtain⟨h',l,z,e⟩:=g
 dsimp only at h⊢
 subst h
 obtain⟨_,q1,q2,q3,_⟩:=N0 hg
 exact⟨by show h'<18446744073709551616;omega,q2,by omega⟩
theorem aeQ(s:zf)(b:ByteArray)(hs:s.2.2.1.length<=maxLen)(hb:b.size<=1099511627776):rP s b=some (dZ s b):=by
 unfold rP WJ dZ
 rw[Re s hs,zc]
 by_cases h0:(iM s).1=0
 case neg=>rw[zF h0,if_pos h0];rfl
 rw[zT h0,Bool.not_true,zD,if_neg (fun h=>h h0),aio s b hb,zc]
 cases ht:j6 s b with
 |inl e=>
  have he:e≠0:=by
   unfold j6 at ht
   split at ht
   ·cases ht;decide
   ·split at ht
    ·cases ht
    ·cases ht;decide
  exact Qq he
 |inr q=>
  obtain⟨t,z⟩:=q
  refine(Qr (p:=(0:Int)=0) rfl).trans ?_
  dsimp only[Dr,KW,mD]
  rw[akx _ _ _ hb,zc]
  by_cases he:(cw s.1 b z).2.2.2=0
  case neg=>rw[if_pos he];exact Qq he
  rw[if_neg (fun h=>h he)]
  refine(Qr he).trans ?_
  obtain⟨q1,q2,q3⟩:=aky he
  dsimp only[bmR]
  rw[O1 _ _ q1 q2 0 (by decide) (by decide),zc,aep,<-q3]
  exact zpd s hs b t hb _ _ q1 q2 (elems (cw s.1 b z).1 (cw s.1 b z).2.1) [] af _ [] rfl (Nat.le_refl _) (by have:=Uo (cw s.1 b z).1 (cw s.1 b z).2.1;rw[zu];omega)
end bj

set_option maxRecDepth 10000
namespace bj
open Go.IntKind renaming wrap->zW,i64->zI,u8->zU
open Go Go.Ref
theorem OJ:∀{l r:List Int},l.Pairwise (· < ·)->r.Pairwise (· < ·)->(∀v,v∈l↔v∈r)->l=r
 | [],[],_,_,_=>rfl
 | [],y::r,_,_,h=>by have:=(h y).2 List.mem_cons_self;cases this
 |x::l,[],_,_,h=>by have:=(h x).1 List.mem_cons_self;cases this
 |x::l,y::r,h1,h2,h=>by
  obtain⟨a1,a2⟩:=List.pairwise_cons.1 h1
  obtain⟨b1,b2⟩:=List.pairwise_cons.1 h2
  have e:x=y:=by
   rcases List.mem_cons.1 ((h x).1 List.mem_cons_self) with e|hx
   ·exact e
   ·rcases List.mem_cons.1 ((h y).2 List.mem_cons_self) with e|hy
    ·exact e.symm
    ·have:=a1 y hy;have:=b1 x hx;omega
  subst e
  rw[OJ a2 b2 fun v=>⟨fun hv=> ?_,fun hv=> ?_⟩]
  ·rcases List.mem_cons.1 ((h v).1 (List.mem_cons_of_mem _ hv)) with e|h3
   ·have:=a1 v hv;omega
   ·exact h3
  ·rcases List.mem_cons.1 ((h v).2 (List.mem_cons_of_mem _ hv)) with e|h3
   ·have:=b1 v hv;omega
   ·exact h3
theorem akP{l:List Int}(hs:l.Pairwise (· < ·))(hr:∀x∈l,1<=x/\x<=128):elems (cR l) (cY l)=l:=
 OJ (TG _ _) hs fun v=>by
  rw[BL,GZ]
  unfold jy
  constructor
  ·intro h
   rw[Bool.and_eq_true,decide_eq_true_eq] at h
   exact h.1
  ·intro h
   rw[Bool.and_eq_true,decide_eq_true_eq,decide_eq_true_eq]
   exact⟨h,hr v h⟩
theorem apO{h l:Nat}(hh:h<dj)(hl:l<dj):cR (elems h l)=h/\cY (elems h l)=l:=
 PY (sJ _) (sK _) hh hl fun n n1 n2=>by
  rw[GZ]
  unfold jy
  rw[zT (p:=1<=n/\n<=128) ⟨n1,n2⟩,Bool.and_true]
  cases hn:b8 h l n with
  |true=>exact zT ((BL h l n).2 hn)
  |false=>exact zF fun hm=>by rw[(BL h l n).1 hm] at hn;cases hn
theorem EO{s:zf}(h:gW s){no:Int}(hh:bm s no=true):2<=no/\no<=128:=by
 have:=Uv (Rd h hh)
 rw[(Uq hh).2] at this
 exact this
theorem MD(s:zf)(ho:gW s):∀(l o:List bg) (x:ByteArray),(∀v∈l,bm s v.1=true/\bp (aJ s v.1) v.2.1=0/\v.2.1.size<=1000)->gd s (x++gf s l) (l.map fun v=>v.1) x.size o=(o++l,hJ)
 | [],o,x,_=>by
   rw[gf,z124,List.append_nil,List.map_nil,gd,if_neg (by omega)]
 |v::r,o,x,h=>by
  obtain⟨h1,h2,h3⟩:=h v List.mem_cons_self
  have hb:=agU (style:=s.1) ho.1 (by omega) h2 x (gf s r)
  have e1:x++gf s (v::r)=x++(ri s.1 (aJ s v.1) v.2.1).1++gf s r:=by rw[gf,ByteArray.append_assoc]
  rw[List.map_cons,gd,if_neg (by rw[h1];decide),e1,hb]
  dsimp only
  rw[if_neg (fun h=>h rfl),Int.toNat_natCast,<-j7,MD s ho r _ (x++(ri s.1 (aJ s v.1) v.2.1).1) fun w hw=>h w (List.mem_cons_of_mem _ hw),List.append_assoc]
  rfl
theorem z157{s:zf}(hs:s.1=1\/s.1=2){m y:ByteArray}(hm:gm m=true):gQ s.1 (fu s.1 m++y)=m/\(fu s.1 m).size=fw s.1:=by
 obtain⟨h4,hd⟩:=pA.1 hm
 have e0:∀(p:ByteArray) (k:Nat),p.size=k->(p++y).extract 0 k=p:=fun p k hk=>by
  have:=Xs (bs []) p y
  rw[ZJ,show(bs []).size=0 from rfl,Nat.zero_add,hk] at this
  exact this
 unfold gQ fu fw
 rcases hs with hs|hs
 ·have n2:¬s.1=2:=by omega
  rw[if_neg n2,if_pos hs,if_neg n2]
  exact⟨e0 m 4 h4,h4⟩
 ·have n1:¬s.1=1:=by omega
  have hz:(rl m).1.size=2:=by rw[QL (by omega) hd,h4]
  rw[if_pos hs,if_neg n1,if_pos hs,e0 _ 2 hz]
  have:=zqv (s:=m) (by omega) hd
  rw[h4] at this
  rw[show(4:Int)=((4:Nat):Int) from rfl,this]
  exact⟨rfl,hz⟩
theorem akH{s:zf}{m:bI}(h:gV s m)(Bc:hN m):dZ s (dE s m)=(m,hJ):=by
 have ho:=(vX s).1 h.iK
 obtain⟨f1,f2,f3⟩:=yw.1 h.iB
 have xW:∀n∈dk m,2<=n/\n<=128:=fun n hn=>by
  obtain⟨v,hv,rfl⟩:=List.mem_map.1 hn
  exact EO ho (f1 v hv).1
 have uZ:(dk m).Pairwise (· < ·):=List.pairwise_map.2 f2
 have fX:=akP uZ fun x hx=>by have:=xW x hx;omega
 have h1:cR (dk m)<9223372036854775808:=by
  have:=apK (dk m)
  rw[zF (fun h1=>by have:=xW 1 h1;omega)] at this
  cases hd:decide (cR (dk m)<9223372036854775808) with
  |true=>exact of_decide_eq_true hd
  |false=>rw[hd] at this;cases this
 obtain⟨t1,t2⟩:=z157 (s:=s) ho.1 (m:=m.1) (y:=(dA s.1 (cR (dk m)) (cY (dk m))).1++gf s m.2.1) h.right
 have e1:dE s m=fu s.1 m.1++((dA s.1 (cR (dk m)) (cY (dk m))).1++gf s m.2.1):=by unfold dE;rw[ByteArray.append_assoc]
 have hb:=anE (style:=s.1) ho.1 h1 (sK (dk m)) (fu s.1 m.1) (gf s m.2.1)
 have c9:fw s.1<=(dE s m).size:=by rw[e1,j7,t2];omega
 unfold dZ
 rw[if_neg (fun hn=>hn h.iK)]
 have hT:j6 s (dE s m)= .inr (m.1,fw s.1):=by
  unfold j6
  rw[if_neg (by omega),e1,t1,if_pos ⟨h.right,h.TC⟩]
 rw[hT]
 show mD s (dE s m) m.1 (cw s.1 (dE s m) (fw s.1))=_
 rw[<-t2]
 show mD s (dE s m) m.1 (cw s.1 (fu s.1 m.1++(dA s.1 (cR (dk m)) (cY (dk m))).1++gf s m.2.1) (fu s.1 m.1).size)=_
 rw[hb]
 unfold mD
 dsimp only
 rw[if_neg (fun hn=>hn rfl),Int.toNat_natCast,fX]
 have hd:=MD s ho m.2.1 [] (fu s.1 m.1++(dA s.1 (cR (dk m)) (cY (dk m))).1) fun v hv=>⟨(f1 v hv).1,(f1 v hv).2,Bc.q9 v hv⟩
 rw[j7] at hd
 have AR:gd s (dE s m) (dk m) ((fu s.1 m.1).size+(dA s.1 (cR (dk m)) (cY (dk m))).1.size) []=([]++m.2.1,hJ):=hd
 rw[AR]
 rfl
theorem zvn(s:zf)(b:ByteArray)(hb:b.size<=1099511627776):∀(r:List Int) (a:Nat) (o q:List bg) (f:bL),a<=b.size->gd s b r a o=(q,f)->f.1=0->f=hJ/\∃l,q=o++l/\(l.map fun v=>v.1)=r/\gf s l=b.extract a b.size/\∀v∈l,bm s v.1=true/\bp (aJ s v.1) v.2.1=0/\v.2.1.size<=999
 | [],a,o,q,f,ha,h,h0=>by
   rw[gd] at h
   by_cases hc:a<b.size
   ·rw[if_pos hc] at h
    injection h with _ h
    rw[<-h] at h0;cases h0
   ·rw[if_neg hc] at h
    injection h with h1 h2
    refine⟨h2.symm,[],by rw[<-h1,List.append_nil],rfl,?_,fun v hv=>by cases hv⟩
    have:a=b.size:=by omega
    rw[this,gf]
    apply wy
    rw[sD,List.drop_eq_nil_of_le (by rw[List.length_take];omega)];rfl
 |no::r,a,o,q,f,ha,h,h0=>by
  rw[gd] at h
  split at h
  ·injection h with _ h;rw[<-h] at h0;cases h0
  ·rename_i hf
   have hf:bm s no=true:=by cases hh:bm s no with
    |true=>rfl
    |false=>exact absurd hh hf
   split at h
   ·rename_i hz
    injection h with _ h
    rw[<-h] at h0
    exact absurd h0 hz
   ·rename_i hz
    generalize hg:n5 s.1 (aJ s no) b (a:Int)=g at h hz
    obtain⟨t,z,e⟩:=g
    dsimp only at h hz
    have he:e=0:=Classical.byContradiction fun hn=>hz hn
    subst he
    obtain⟨c1,c2,c3,c4,c5,c6⟩:=zdn hb hg
    obtain⟨i1,l,i2,i3,i4,i5⟩:=zvn s b hb r z.toNat _ q f (by omega) h h0
    refine⟨i1,(no,t,())::l,by rw[i2,List.append_assoc];rfl,by rw[List.map_cons,i3],?_,fun v hv=> ?_⟩
    ·rw[gf,i4]
     dsimp only
     rw[c6]
     exact R7 _ (by omega) (by omega)
    ·rcases List.mem_cons.1 hv with rfl|hv
     ·exact⟨hf,c2,c5⟩
     ·exact i5 v hv
theorem anP(b:ByteArray):b.extract 0 b.size=b:=by
 apply wy
 rw[sD,List.drop_zero,List.take_of_length_le (by rw[zg];exact Nat.le_refl _)]
theorem ag6{s:zf}{b:ByteArray}{m:bI}{f:bL}(hb:b.size<=1099511627776)(h:dZ s b=(m,f))(h0:f.1=0):f=hJ/\gV s m/\hN m/\dE s m=b:=by
 unfold dZ at h
 split at h
 ·injection h with _ h;rw[<-h] at h0;cases h0
 rename_i x5
 have x5:(iM s).1=0:=Classical.byContradiction fun hn=>x5 hn
 have ho:=(vX s).1 x5
 cases ht:j6 s b with
 |inl e=>
  rw[ht] at h
  have he:e≠0:=by
   unfold j6 at ht
   split at ht
   ·cases ht;decide
   ·split at ht
    ·cases ht
    ·cases ht;decide
  injection h with _ h
  rw[<-h] at h0
  exact absurd h0 he
 |inr q=>
  rw[ht] at h
  unfold j6 at ht
  split at ht
  ·cases ht
  rename_i c9
  split at ht
  case isFalse=>cases ht
  rename_i hr
  obtain⟨ea,fp⟩:=hr
  injection ht with ht
  subst ht
  replace h:mD s b (gQ s.1 b) (cw s.1 b (fw s.1))=(m,f):=h
  have htc:fu s.1 (gQ s.1 b)=b.extract 0 (fw s.1):=by
   obtain⟨h4,hd⟩:=pA.1 ea
   unfold fu gQ fw at*
   rcases ho.1 with h1|h2
   ·rw[if_pos h1,if_neg (by omega),if_neg (by omega)]
   ·rw[if_pos h2] at c9 ea h4 hd⊢
    rw[if_neg (by omega),if_pos h2]
    generalize hg:kZ (b.extract 0 2) 4=g at ea h4 hd⊢
    obtain⟨t,e,i⟩:=g
    dsimp only at h4 hd⊢
    have x7:(b.extract 0 2).size=2:=by rw[ByteArray.size_extract];omega
    have he:e=0:=by
     unfold kZ at hg
     rw[if_neg (by decide),if_neg (by rw[x7];decide)] at hg
     split at hg
     ·injection hg with hg _
      rw[<-hg] at h4;cases h4
     ·injection hg with _ hg
      injection hg with hg _
      exact hg.symm
    subst he
    obtain⟨a1,_,_⟩:=zhu hg (by rw[x7];decide)
    rw[a1]
  unfold mD at h
  generalize hg:cw s.1 b ((fw s.1:Nat):Int)=g at h
  obtain⟨hi,lo,z,e⟩:=g
  dsimp only at h
  split at h
  ·rename_i he
   injection h with _ h
   rw[<-h] at h0
   exact absurd h0 he
  rename_i he
  have he:e=0:=Classical.byContradiction fun hn=>he hn
  subst he
  obtain⟨_,b1,b2,b3,b4,b5⟩:=N0 hg
  generalize hq:gd s b (elems hi lo) z.toNat []=d at h
  obtain⟨q,f'⟩:=d
  injection h with hm hf
  dsimp only at hm hf
  subst hf
  obtain⟨i1,l,i2,i3,i4,i5⟩:=zvn s b hb _ _ _ _ _ (by omega) hq h0
  rw[List.nil_append] at i2
  subst i2
  subst hm
  have xW:dk (gQ s.1 b,q,())=elems hi lo:=i3
  obtain⟨s1,s2⟩:=apO (h:=hi) (l:=lo) (by show hi<18446744073709551616;omega) b2
  have uZ:ka q:=by
   have:=TG hi lo
   rw[<-i3] at this
   exact List.pairwise_map.1 this
  refine⟨i1,⟨x5,ea,fp,yw.2 ⟨fun v hv=>⟨(i5 v hv).1,(i5 v hv).2.1⟩,uZ,fun v hv=>by have:=EO ho (i5 v hv).1;omega⟩⟩,⟨by have:=(pA.1 ea).1;dsimp only;omega,?_,fun v hv=>by have:=(i5 v hv).2.2;omega⟩,?_⟩
  ·have:=Uo hi lo
   rw[<-i3,List.length_map] at this
   dsimp only;omega
  ·unfold dE
   rw[xW,s1,s2]
   dsimp only
   rw[htc,b5,i4,R7 _ (by omega) (by omega),R7 _ (by omega) (by omega),anP]
abbrev aV:=zf×Map×List Int×List bg×Unit
abbrev Mi:bg:=(0,bs [],())
def kB(s:zf)(prev:List Int)(no:Int):Int:=bif !bm s no then 9 else bif decide (no=39) then 1 else bif decide (no∈prev) then 10 else 0
def gC(s:zf):List Int->List Int->Int->Option (Int×Int)
 |_,[],_=>none
 |prev,no::r,i=>bif decide (kB s prev no=0) then gC s (prev++ [no]) r (i+1) else some (kB s prev no,i)
def iX(a:Spec)(prev:List Int)(c:bg):Int:=bif decide (c.1<0) then 1 else bif decide (16<c.1) then 1 else bif decide (c.1∈prev) then 10 else bp a c.2.1
def fC(a:Spec):List Int->List bg->Int->Option (Int×Int)
 |_,[],_=>none
 |prev,c::r,i=>bif decide (iX a prev c=0) then fC a (prev++ [c.1]) r (i+1) else some (iX a prev c,i)
def gi(s:aV):Int×Int×Int:=
 bif !decide ((iM s.1).1=0) then(1,1,0) else bif !bm s.1 39 then(9,1,1) else match gC s.1 [] s.2.2.1 0 with
  |some e=>(e.1,2,e.2)
  |none=>match fC (aJ s.1 39) [] s.2.2.2.1 0 with
   |some e=>(e.1,3,e.2)
   |none=>bif decide ((0:Int)∈s.2.2.2.1.map fun c=>c.1) then(0,0,0) else(15,3,(s.2.2.2.1.length:Int))
structure df(s:aV):Prop where
 iK:s.1.2.2.1.length<=maxLen
 oV:s.2.2.1.length<=1000000
 gA:s.2.2.2.1.length<=1000000
 q9:∀c∈s.2.2.2.1,c.2.1.size<=1099511627776
theorem Oi(no:Int):∀(l:List Int) (i:Int),0<=i->∃r,bB (fun i (x:Int) (s:Unit) K=>bif decide (no=x) then some (Sum.inl i) else K s) (fun _=>some (Sum.inr ())) l i ()=some r/\(no∈l->∃j,r= .inl j/\0<=j)/\(no∉l->r= .inr ())
 | [],i,_=>⟨_,rfl,fun h=>(by cases h),fun _=>rfl⟩
 |x::l,i,h=>by
  rw[bB]
  by_cases e:no=x
  ·rw[zT e,zC]
   exact⟨_,rfl,fun _=>⟨i,rfl,h⟩,fun hn=>absurd (by rw[e];exact List.mem_cons_self) hn⟩
  ·rw[zF e,zD]
   obtain⟨r,h1,h2,h3⟩:=Oi no l (i+1) (by omega)
   exact⟨r,h1,fun hm=>h2 ((List.mem_cons.1 hm).resolve_left e),fun hn=>h3 fun hm=>hn (List.mem_cons_of_mem _ hm)⟩
theorem acu(l:List Int)(no:Int)(h:l.length<=maxLen):ud l no=some (decide (no∈l)):=by
 unfold ud Ww wO WC
 have:=cD (0:Int) l h (fun i (x:Int) (s:Unit) K=>bif decide (no=x) then some (Sum.inl i) else K s) (fun _=>some (Sum.inr ()))
  (fun k i s=>RU k l no (l.length:Int) i) (fun k i s=>rfl) ()
 dsimp only
 obtain⟨r,h1,h2,h3⟩:=Oi no l 0 (Int.le_refl _)
 rw[this,h1,zc]
 by_cases hm:no∈l
 ·obtain⟨j,rfl,hj⟩:=h2 hm
  rw[zT hm]
  show some (decide (0<=j))=_
  rw[zT hj]
 ·rw[h3 hm,zF hm];rfl
theorem Oj(c:bg):∀(l:List bg) (i:Int),0<=i->∃r,bB (fun i (x:bg) (s:bg) K=>((rN x s).bind fun r1=>(bif r1.1 then some (Sum.inl (i,r1.2)) else K r1.2))) (fun s=>some (Sum.inr s)) l i c=some r/\(c.1∈l.map (fun v=>v.1)->∃j,r= .inl (j,c)/\0<=j)/\(c.1∉l.map (fun v=>v.1)->r= .inr c)
 | [],i,_=>⟨_,rfl,fun h=>(by cases h),fun _=>rfl⟩
 |x::l,i,h=>by
  rw[bB]
  unfold rN Wd
  rw[zc]
  dsimp only
  rw[List.map_cons]
  by_cases e:x.1=c.1
  ·rw[zT e,zC]
   exact⟨_,rfl,fun _=>⟨i,rfl,h⟩,fun hn=>absurd (by rw[e];exact List.mem_cons_self) hn⟩
  ·rw[zF e,zD]
   obtain⟨r,h1,h2,h3⟩:=Oj c l (i+1) (by omega)
   exact⟨r,h1,fun hm=>h2 ((List.mem_cons.1 hm).resolve_left fun e2=>e e2.symm),fun hn=>h3 fun hm=>hn (List.mem_cons_of_mem _ hm)⟩
theorem acv(l:List bg)(c:bg)(h:l.length<=maxLen):uc l c=some (decide (c.1∈l.map fun v=>v.1),c):=by
 unfold uc Wv wN Wy
 have:=cD Mi l h (fun i (x:bg) (s:bg) K=>((rN x s).bind fun r1=>(bif r1.1 then some (Sum.inl (i,r1.2)) else K r1.2))) (fun s=>some (Sum.inr s))
  (fun k i s=>RS k l (l.length:Int) i s) (fun k i s=>rfl) c
 dsimp only
 obtain⟨r,h1,h2,h3⟩:=Oj c l 0 (Int.le_refl _)
 rw[this,h1,zc]
 by_cases hm:c.1∈l.map fun v=>v.1
 ·obtain⟨j,rfl,hj⟩:=h2 hm
  rw[zT hm]
  show some (decide (0<=j),c)=_
  rw[zT hj]
 ·rw[h3 hm,zF hm];rfl
theorem Im{α:Type}{l:List α}{j:Nat}(h:j<l.length)(d:α):l.getD j d=l[j]:=by rw[List.getD_eq_getElem?_getD,List.getElem?_eq_getElem h];rfl
theorem anM(s:aV)(h:df s){j:Nat}(hj:j<s.2.2.1.length):tZ s (j:Int)=some (kB s.1 (s.2.2.1.take j) s.2.2.1[j]):=by
 have he:=h.oV
 unfold tZ We kB
 rw[zi hj,Int.toNat_natCast,Im hj,BM s.1 _ h.iK,zc]
 cases bm s.1 s.2.2.1[j] with
 |false=>rfl
 |true=>
  dsimp only
  rw[Bool.not_true,zD,zD]
  cases decide (s.2.2.1[j]=39) with
  |true=>rfl
  |false=>
   rw[zD,zD,zT (by omega),zC,zT (by omega),zC,List.drop_zero,acu _ _ (by rw[List.length_take,zh];omega),zc]
   cases decide (s.2.2.1[j]∈s.2.2.1.take j)<;>rfl
theorem anJ(s:aV)(h:df s)(a:Spec){j:Nat}(hj:j<s.2.2.2.1.length):tY s (j:Int) a=some (iX a ((s.2.2.2.1.take j).map fun c=>c.1) s.2.2.2.1[j]):=by
 have he:=h.gA
 have ht:=h.q9 _ (List.getElem_mem hj)
 unfold tY Wc iX
 rw[zi hj,Int.toNat_natCast,Im hj]
 cases decide (s.2.2.2.1[j].1<0) with
 |true=>rfl
 |false=>
  rw[zD,zD]
  cases decide (16<s.2.2.2.1[j].1) with
  |true=>rfl
  |false=>
   rw[zD,zD,zT (by omega),zC,zT (by omega),zC,List.drop_zero,acv _ _ (by rw[List.length_take,zh];omega),zc]
   dsimp only
   cases decide (s.2.2.2.1[j].1∈(s.2.2.2.1.take j).map fun c=>c.1) with
   |true=>rfl
   |false=>rw[zD,zD,yz _ _ ht];rfl
theorem MO(s:aV)(h:df s)(sp:Spec):∀(n j k:Nat),j+n=s.2.2.1.length->n<k->GM k (s.2.2.1.length:Int) (j:Int) s sp=some (match gC s.1 (s.2.2.1.take j) (s.2.2.1.drop j) j with
 |some e=> .inl (e.1,2,e.2,s,sp)
 |none=> .inr (s,sp))
 |n,j,0,_,hk=>by omega
 |0,j,k+1,hj,hk=>by
  unfold GM RM
  rw[zF (by omega),zD,List.drop_eq_nil_of_le (by omega)];rfl
 |n+1,j,k+1,hj,hk=>by
  have al:j<s.2.2.1.length:=by omega
  have he:=h.oV
  unfold GM RM
  rw[zT (by omega),zC,anM s h al,zc,List.drop_eq_getElem_cons al,gC]
  cases decide (kB s.1 (s.2.2.1.take j) s.2.2.1[j]=0) with
  |false=>rfl
  |true=>
   rw[Bool.not_true,zD,zC]
   dsimp only
   rw[zv (by omega),List.take_append_getElem al]
   exact MO s h sp n (j+1) k (by omega) (by omega)
def mg(t:Bool):List bg->Bool
 | []=>t
 |c::r=>mg (t||decide (c.1=0)) r
theorem OY(t:Bool):∀l:List bg,mg t l=(t||decide ((0:Int)∈l.map fun c=>c.1))
 | []=>by simp [mg]
 |c::r=>by
  rw[mg,OY _ r,List.map_cons,Bool.or_assoc]
  congr 1
  rw[<-Bool.decide_or]
  exact decide_eq_decide.2 ⟨fun h=>h.elim (fun e=>by rw[<-e];exact List.mem_cons_self) (List.mem_cons_of_mem _),fun h=>(List.mem_cons.1 h).imp (fun e=>e.symm) id⟩
theorem zi1(s:aV)(h:df s)(a:Spec):∀(n j k:Nat) (t:Bool),j+n=s.2.2.2.1.length->n<k->∃t',GN k t s.2.2.2.1 (s.2.2.2.1.length:Int) (j:Int) s a=some (match fC a ((s.2.2.2.1.take j).map fun c=>c.1) (s.2.2.2.1.drop j) j with
 |some e=> .inl (e.1,3,e.2,t',s)
 |none=> .inr (mg t (s.2.2.2.1.drop j),s))
 |n,j,0,t,_,hk=>by omega
 |0,j,k+1,t,hj,hk=>by
  unfold GN RN
  rw[zF (by omega),zD,List.drop_eq_nil_of_le (by omega)]
  exact⟨t,rfl⟩
 |n+1,j,k+1,t,hj,hk=>by
  have al:j<s.2.2.2.1.length:=by omega
  have he:=h.gA
  unfold GN RN
  rw[zT (by omega),zC,zi al,anJ s h a al,zc,List.drop_eq_getElem_cons al,fC,mg]
  cases decide (iX a ((s.2.2.2.1.take j).map fun c=>c.1) s.2.2.2.1[j]=0) with
  |false=>exact⟨t,rfl⟩
  |true=>
   rw[Bool.not_true,zD,zC]
   dsimp only
   rw[zv (by omega),Int.toNat_natCast,Im al]
   have e:(s.2.2.2.1.take j).map (fun c=>c.1)++ [s.2.2.2.1[j].1]=(s.2.2.2.1.take (j+1)).map fun c=>c.1:=by rw[<-List.take_append_getElem al,List.map_append];rfl
   rw[e]
   cases t with
   |true=>
    rw[zC,Bool.true_or]
    exact zi1 s h a n (j+1) k true (by omega) (by omega)
   |false=>
    rw[zD,Bool.false_or]
    exact zi1 s h a n (j+1) k _ (by omega) (by omega)
theorem zpa(s:aV)(h:df s):tW s=some (gi s):=by
 have he:=h.oV
 have hc:=h.gA
 unfold tW V5 gi
 rw[Re s.1 h.iK,zc]
 cases decide ((iM s.1).1=0) with
 |false=>rfl
 |true=>
  rw[Bool.not_true,zD,zD,BM s.1 39 h.iK,zc]
  cases bm s.1 39 with
  |false=>rfl
  |true=>
   dsimp only
   rw[Bool.not_true,zD,zD]
   have e1:=MO s h (aJ s.1 39) s.2.2.1.length 0 af (by omega) (by rw[zu];omega)
   rw[List.take_zero,List.drop_zero,show((0:Nat):Int)=0 from rfl] at e1
   rw[e1,zc]
   cases gC s.1 [] s.2.2.1 0 with
   |some e=>rfl
   |none=>
    dsimp only
    rw[Sum.elim_inr]
    unfold V6
    dsimp only
    obtain⟨t',e2⟩:=zi1 s h (aJ s.1 39) s.2.2.2.1.length 0 af false (by omega) (by rw[zu];omega)
    rw[List.take_zero,List.drop_zero,show((0:Nat):Int)=0 from rfl,List.map_nil] at e2
    rw[e2,zc]
    cases fC (aJ s.1 39) [] s.2.2.2.1 0 with
    |some e=>rfl
    |none=>
     dsimp only
     rw[Sum.elim_inr]
     unfold V7
     rw[OY,Bool.false_or]
     dsimp only
     cases decide ((0:Int)∈s.2.2.2.1.map fun c=>c.1)<;>rfl
theorem zos(l:List bg)(hl:l.length<=9223372036854775807)(m:Nat)(hm:m<=l.length)(e:Int):∀(n j k:Nat),j+n=m->n<k->∃r,GF k l (m:Int) e (j:Int)=some r/\(e∈((l.take m).drop j).map (fun v=>v.1)->∃i,r= .inl i/\0<=i)/\(e∉((l.take m).drop j).map (fun v=>v.1)->r= .inr ())
 |n,j,0,_,hk=>by omega
 |0,j,k+1,hj,hk=>by
  unfold GF RA
  rw[zF (by omega),zD,List.drop_eq_nil_of_le (by rw[List.length_take];omega)]
  exact⟨_,rfl,fun h=>(by cases h),fun _=>rfl⟩
 |n+1,j,k+1,hj,hk=>by
  have al:j<l.length:=by omega
  have gG:j<(l.take m).length:=by rw[List.length_take];omega
  unfold GF RA
  rw[zT (by omega),zC,zi al,Int.toNat_natCast,Im al,List.drop_eq_getElem_cons gG,List.map_cons,List.getElem_take]
  by_cases he:l[j].1=e
  ·rw[zT he,zC]
   exact⟨_,rfl,fun _=>⟨(j:Int),rfl,by omega⟩,fun hn=>absurd (by rw[he];exact List.mem_cons_self) hn⟩
  ·rw[zF he,zD]
   dsimp only
   rw[zv (by omega)]
   obtain⟨r,h1,h2,h3⟩:=zos l hl m hm e n (j+1) k (by omega) (by omega)
   exact⟨r,h1,fun hm=>h2 ((List.mem_cons.1 hm).resolve_left fun e2=>he e2.symm),fun hn=>h3 fun hm=>hn (List.mem_cons_of_mem _ hm)⟩
theorem MX(l:List bg)(hl:l.length<=maxLen)(m:Nat)(hm:m<=l.length)(e:Int):∃r,rF l (m:Int) e=some r/\decide (0<=r)=decide (e∈(l.take m).map fun v=>v.1):=by
 unfold rF Ve
 rw[zh] at hl
 obtain⟨r,h1,h2,h3⟩:=zos l (by omega) m hm e m 0 af (by omega) (by rw[zu];omega)
 rw[show((0:Nat):Int)=0 from rfl] at h1
 dsimp only
 rw[h1,zc]
 rw[List.drop_zero] at h2 h3
 by_cases dv:e∈(l.take m).map fun v=>v.1
 ·obtain⟨i,rfl,hi⟩:=h2 dv
  exact⟨i,rfl,by rw[zT hi,zT dv]⟩
 ·rw[h3 dv]
  exact⟨-1,rfl,by rw[zF dv];rfl⟩
theorem zop(s:aV)(h:df s)(t5:Int):∀(n j k:Nat),j+n=s.2.2.1.length->n<k->GC k t5 (j:Int) s=some (match gC s.1 (s.2.2.1.take j) (s.2.2.1.drop j) j with
 |some e=> .inl (e.1,2,e.2,t5,s)
 |none=> .inr (t5,s))
 |n,j,0,_,hk=>by omega
 |0,j,k+1,hj,hk=>by
  unfold GC Ry
  rw[zF (by omega),zD,List.drop_eq_nil_of_le (by omega)];rfl
 |n+1,j,k+1,hj,hk=>by
  have al:j<s.2.2.1.length:=by omega
  have he:=h.oV
  have ih:=zop s h t5 n (j+1) k (by omega) (by omega)
  have hw:∀{R:Type} (z:Option R),zd (j:Int) s.2.2.1.length z=z:=fun z=>zi al
  unfold GC Ry
  simp only[hw]
  rw[zT (by omega),zC,Int.toNat_natCast,Im al,TV s.1 _ h.iK,zc,List.drop_eq_getElem_cons al,gC]
  unfold kB
  rcases T5 s.1 s.2.2.1[j] with⟨h1,h2,_⟩|⟨h1,_,h2,_⟩
  ·rw[h1,h2];rfl
  ·rw[h2,zF (by omega),zD,Bool.not_true,zD]
   cases decide (s.2.2.1[j]=39) with
   |true=>rfl
   |false=>
    rw[zD,zD,zT (by omega),zC,zT (by omega),zC,List.drop_zero,al3 _ _ (by rw[List.length_take,zh];omega),zc]
    cases decide (s.2.2.1[j]∈s.2.2.1.take j) with
    |true=>rfl
    |false=>
     rw[zD,zD,zT rfl,zC]
     rw[zv (by omega),List.take_append_getElem al]
     exact ih
theorem zoo(s:aV)(h:df s)(t5:Int)(h5:0<=t5/\t5<s.1.2.2.1.length)(hs5:List.getD s.1.2.2.1 t5.toNat di=aJ s.1 39):∀(n j k:Nat),j+n=s.2.2.2.1.length->n<k->GD k t5 (j:Int) s=some (match fC (aJ s.1 39) ((s.2.2.2.1.take j).map fun c=>c.1) (s.2.2.2.1.drop j) j with
 |some e=> .inl (e.1,3,e.2,s)
 |none=> .inr s)
 |n,j,0,_,hk=>by omega
 |0,j,k+1,hj,hk=>by
  unfold GD Rz
  rw[zF (by omega),zD,List.drop_eq_nil_of_le (by omega)];rfl
 |n+1,j,k+1,hj,hk=>by
  have al:j<s.2.2.2.1.length:=by omega
  have he:=h.gA
  have ih:=zoo s h t5 h5 hs5 n (j+1) k (by omega) (by omega)
  have hw:∀{R:Type} (z:Option R),zd (j:Int) s.2.2.2.1.length z=z:=fun z=>zi al
  have hw5:∀{R:Type} (z:Option R),zd t5 s.1.2.2.1.length z=z:=fun z=>zo h5.1 h5.2
  have ht:=h.q9 _ (List.getElem_mem al)
  obtain⟨r,f1,f2⟩:=MX s.2.2.2.1 (by rw[zh];omega) j (by omega) s.2.2.2.1[j].1
  unfold GD Rz
  simp only[hw,hw5]
  rw[zT (by omega),zC,Int.toNat_natCast,Im al,f1,zc,f2,hs5,HN _ _ ht,zc,List.drop_eq_getElem_cons al,fC]
  unfold iX
  cases decide (s.2.2.2.1[j].1<0) with
  |true=>rfl
  |false=>
   rw[zD,zD]
   cases decide (16<s.2.2.2.1[j].1) with
   |true=>rfl
   |false=>
    rw[zD,zD]
    cases decide (s.2.2.2.1[j].1∈(s.2.2.2.1.take j).map fun c=>c.1) with
    |true=>rfl
    |false=>
     rw[zD,zD]
     cases decide (bp (aJ s.1 39) s.2.2.2.1[j].2.1=0) with
     |false=>rfl
     |true=>
      rw[Bool.not_true,zD,zC]
      have e:(s.2.2.2.1.take j).map (fun c=>c.1)++ [s.2.2.2.1[j].1]=(s.2.2.2.1.take (j+1)).map fun c=>c.1:=by rw[<-List.take_append_getElem al,List.map_append];rfl
      rw[zv (by omega),e]
      exact ih
theorem zrv(s:aV)(h:df s):tC s=some (gi s):=by
 have he:=h.oV
 have hc:=h.gA
 unfold tC U7 gi
 rw[zdc s.1 h.iK,zc]
 cases decide ((iM s.1).1=0) with
 |false=>rfl
 |true=>
  rw[Bool.not_true,zD,zD,TV s.1 39 h.iK,zc]
  rcases T5 s.1 39 with⟨h1,h2,_⟩|⟨h1,h1',h2,h3⟩
  ·rw[h1,h2];rfl
  ·rw[h2,zF (by omega),zD,Bool.not_true,zD]
   dsimp only
   have e1:=zop s h (fG s.1.2.2.1 39 0) s.2.2.1.length 0 af (by omega) (by rw[zu];omega)
   rw[List.take_zero,List.drop_zero,show((0:Nat):Int)=0 from rfl] at e1
   rw[e1,zc]
   cases gC s.1 [] s.2.2.1 0 with
   |some e=>rfl
   |none=>
    dsimp only
    rw[Sum.elim_inr]
    unfold U8
    dsimp only
    have e2:=zoo s h (fG s.1.2.2.1 39 0) ⟨h1,h1'⟩ h3 s.2.2.2.1.length 0 af (by omega) (by rw[zu];omega)
    rw[List.take_zero,List.drop_zero,show((0:Nat):Int)=0 from rfl,List.map_nil] at e2
    rw[e2,zc]
    cases fC (aJ s.1 39) [] s.2.2.2.1 0 with
    |some e=>rfl
    |none=>
     dsimp only
     rw[Sum.elim_inr]
     unfold U9
     obtain⟨r,f1,f2⟩:=MX s.2.2.2.1 (by rw[zh];omega) s.2.2.2.1.length (Nat.le_refl _) 0
     rw[List.take_length] at f2
     rw[f1,zc]
     by_cases hr:0<=r
     ·rw[zT hr] at f2
      rw[zF (by omega),<-f2];rfl
     ·rw[zF hr] at f2
      rw[zT (by omega),<-f2];rfl
abbrev wu:=List aV×Int×Unit
abbrev an8:zf:=((0:Int),(0:Int),([]:List Spec),())
abbrev ig:aV:=(an8,LX,([]:List Int),([]:List bg),())
theorem IE:∃k,af=k+1+1+1:=⟨af-3,by rw[zu]⟩
structure cu(p q:aV):Prop where
 sp:df p
 sq:df q
 pm:dz p.2.1
 qm:dz q.2.1
 Df:p.1.2.2.1.length<=200
 Dj:q.1.2.2.1.length<=200
 pe:p.2.2.1.length<=300
 qe:q.2.2.1.length<=300
 pml:p.2.1.2.1.length<=300
 qml:q.2.1.2.1.length<=300
 ab5:∀c∈p.2.2.2.1,c.2.1.size<=1200
 ab6:∀c∈q.2.2.2.1,c.2.1.size<=1200
def eS(p q:aV)(n:Int):Int×Int×Int:=
 bif decide (n<1) then(5,2,0) else bif decide (65535<n) then(5,2,0)
 else bif !decide ((gi p).1=0) then((gi p).1,0,1) else bif !decide ((dG p.2.1 p.1 q.1).1=0) then((dG p.2.1 p.1 q.1).1,0,2)
 else bif !decide ((gi q).1=0) then((gi q).1,1,1) else bif !decide ((dG q.2.1 q.1 p.1).1=0) then((dG q.2.1 q.1 p.1).1,1,2) else(0,0,0)
theorem sB{R:Type}(x:Option R):zd 0 2 x=x:=zo (by omega) (by omega)
theorem sC{R:Type}(x:Option R):zd 1 2 x=x:=zo (by omega) (by omega)
theorem yt:zW zI ((1:Int)-(0:Int))=1:=by decide
theorem yu:zW zI ((1:Int)-(1:Int))=0:=by decide
theorem BB:zW zI ((0:Int)+(1:Int))=1:=by decide
theorem BC:zW zI ((1:Int)+(1:Int))=2:=by decide
theorem gp(p q:aV):List.getD [p,q] (0:Int).toNat ig=p:=rfl
theorem gq(p q:aV):List.getD [p,q] (1:Int).toNat ig=q:=rfl
theorem ze6(p q:aV)(n:Int)(h:cu p q):rO ([p,q],n,())=some (eS p q n):=by
 obtain⟨k,hk⟩:=IE
 unfold rO Wh eS
 dsimp only
 cases decide (n<1) with
 |true=>rfl
 |false=>
  cases decide (65535<n) with
  |true=>rfl
  |false=>
   rw[zD,zD,zD,zD,hk]
   unfold GO Ia
   simp only[sB,sC,yt,yu,BB,BC,gp,gq]
   rw[zT (by decide:(0:Int)<2),zC,zpa p h.sp,zc]
   cases decide ((gi p).1=0) with
   |false=>rfl
   |true=>
    rw[Bool.not_true,zD,zD,z83 p.2.1 p.1 q.1 h.pm h.sp.iK h.sq.iK,zc]
    cases decide ((dG p.2.1 p.1 q.1).1=0) with
    |false=>rfl
    |true=>
     rw[Bool.not_true,zD,zD]
     unfold GO Ia
     simp only[sB,sC,yt,yu,BB,BC,gp,gq]
     rw[zT (by decide:(1:Int)<2),zC,zpa q h.sq,zc]
     cases decide ((gi q).1=0) with
     |false=>rfl
     |true=>
      rw[Bool.not_true,zD,zD,z83 q.2.1 q.1 p.1 h.qm h.sq.iK h.sp.iK,zc]
      cases decide ((dG q.2.1 q.1 p.1).1=0) with
      |false=>rfl
      |true=>
       rw[Bool.not_true,zD,zD]
       unfold GO Ia
       rw[zF (by decide:¬(2:Int)<2),zD]
       rfl
theorem adI(p q:aV)(n:Int)(h:cu p q):tE ([p,q],n,())=some (eS p q n):=by
 obtain⟨k,hk⟩:=IE
 unfold tE Vg eS
 dsimp only
 cases decide (n<1) with
 |true=>rfl
 |false=>
  cases decide (65535<n) with
  |true=>rfl
  |false=>
   rw[zD,zD,zD,zD,hk]
   unfold GG H6
   simp only[sB,sC,yt,yu,BB,BC,gp,gq]
   rw[zT (by decide:(0:Int)<2),zC,zrv p h.sp,zc]
   cases decide ((gi p).1=0) with
   |false=>rfl
   |true=>
    rw[Bool.not_true,zD,zD,zru p.2.1 p.1 q.1 h.pm h.sp.iK h.sq.iK,zc]
    cases decide ((dG p.2.1 p.1 q.1).1=0) with
    |false=>rfl
    |true=>
     rw[Bool.not_true,zD,zD]
     unfold GG H6
     simp only[sB,sC,yt,yu,BB,BC,gp,gq]
     rw[zT (by decide:(1:Int)<2),zC,zrv q h.sq,zc]
     cases decide ((gi q).1=0) with
     |false=>rfl
     |true=>
      rw[Bool.not_true,zD,zD,zru q.2.1 q.1 p.1 h.qm h.sq.iK h.sp.iK,zc]
      cases decide ((dG q.2.1 q.1 p.1).1=0) with
      |false=>rfl
      |true=>
       rw[Bool.not_true,zD,zD]
       unfold GG H6
       rw[zF (by decide:¬(2:Int)<2),zD]
       rfl
theorem Mo(s:aV)(h:df s)(h2:s.1.2.2.1.length<=200):tD s=some s:=by
 have he:=h.oV
 have hc:=h.gA
 unfold tD Va
 rw[aeN s.1 (by omega),zc,zT (by simp;omega),zC,zT (by simp;omega),zC]
 rfl
theorem qX(p q r:aV):List.set [p,q] (0:Int).toNat r=[r,q]:=rfl
theorem qY(p q r:aV):List.set [p,q] (1:Int).toNat r=[p,r]:=rfl
theorem Hs(p q:aV):List.getD [p,q] (0:Int).toNat ((((0:Int),(0:Int),([]:List Spec),()),(([]:List bq),([]:List aO),()),([]:List Int),([]:List bg),()):aV)=p:=rfl
theorem Ht(p q:aV):List.getD [p,q] (1:Int).toNat ((((0:Int),(0:Int),([]:List Spec),()),(([]:List bq),([]:List aO),()),([]:List Int),([]:List bg),()):aV)=q:=rfl
theorem aeP(p q:aV)(n:Int)(h:cu p q):tF ([p,q],n,())=some ([p,q],n,()):=by
 obtain⟨k,hk⟩:=IE
 unfold tF Vi
 dsimp only
 rw[hk]
 unfold GH H7
 simp only[sB,sC,yt,yu,BB,BC,gp,gq,Hs,Ht,qX,qY]
 rw[zT (by decide:(0:Int)<2),zC,Mn _ h.pm,zc,Mo p h.sp h.Df,zc]
 unfold GH H7
 simp only[sB,sC,yt,yu,BB,BC,gp,gq,Hs,Ht,qX,qY]
 rw[zT (by decide:(1:Int)<2),zC,Mn _ h.qm,zc,Mo q h.sq h.Dj,zc]
 unfold GH H7
 rw[zF (by decide:¬(2:Int)<2),zD]
 rfl
theorem w0{R:Type}(x:Option R):zd 0 2 x=x:=zo (by omega) (by omega)
theorem w1{R:Type}(x:Option R):zd 1 2 x=x:=zo (by omega) (by omega)
theorem ga(a b:zf):List.getD ([a,b]:List zf) (0:Int).toNat ((0:Int),(0:Int),([]:List Spec),())=a:=rfl
def dB(m:ByteArray):ByteArray:=strOf [ze m 0,ze m 1,ze m 2+1,ze m 3]
theorem anT{m:ByteArray}(h:m.size=4):bl m=[ze m 0,ze m 1,ze m 2,ze m 3]:=by
 have hl:(bl m).length=4:=by rw[zg];exact h
 have e:=fun i=>mc m i
 match hb:bl m,hl with
 | [a,b,c,d],_=>rw[e 0,e 1,e 2,e 3,hb];rfl
theorem Uc{m:ByteArray}(h:dS m=true):gm m=true/\(ze m 2=48\/ze m 2=50):=by
 unfold dS at h
 rw[Bool.and_eq_true,Bool.or_eq_true,decide_eq_true_eq,decide_eq_true_eq] at h
 exact h
theorem PW{m:ByteArray}(h:dS m=true):bl (dB m)=[ze m 0,ze m 1,ze m 2+1,ze m 3]/\bk [ze m 0,ze m 1,ze m 2+1,ze m 3]=true:=by
 obtain⟨hr,h2⟩:=Uc h
 have d0:=yL hr 0 (by decide)
 have d1:=yL hr 1 (by decide)
 have d3:=yL hr 3 (by decide)
 have hd:bk [ze m 0,ze m 1,ze m 2+1,ze m 3]=true:=sF.2 ⟨vY.2 d0,sF.2 ⟨vY.2 d1,sF.2 ⟨vY.2 (by omega),sF.2 ⟨vY.2 d3,rfl⟩⟩⟩⟩
 exact⟨z21 (MF hd),hd⟩
theorem an7{m:ByteArray}(h:dS m=true):gm (dB m)=true/\gR (dB m)=gR m/\dS (dB m)=false:=by
 obtain⟨hr,h2⟩:=Uc h
 obtain⟨hb,hd⟩:=PW h
 have hs:(dB m).size=4:=by rw[<-zg,hb];rfl
 have fp:gm (dB m)=true:=pA.2 ⟨hs,by rw[hb];exact hd⟩
 have e0:ze (dB m) 0=ze m 0:=by rw[mc (dB m),hb];rfl
 have e2:ze (dB m) 2=ze m 2+1:=by rw[mc (dB m),hb];rfl
 refine⟨fp,?_,?_⟩
 ·unfold gR
  rw[hr,fp,e0]
 ·unfold dS
  rw[fp,e2,zF (by omega),zF (by omega)];rfl
theorem ac5(m:ByteArray)(h:m.size<=maxLen):tR m=some (if dS m=true then(dB m,true) else(bs [],false)):=by
 unfold tR VT
 rw[zdb m h,zc]
 cases hr:dS m with
 |false=>rfl
 |true=>
  obtain⟨ea,h2⟩:=Uc hr
  have h4:=(pA.1 ea).1
  have hb:=anT h4
  have z1:(m.extract 0 2).size=2:=by rw[ByteArray.size_extract];omega
  have z3:(m.extract 3 m.size).size=1:=by rw[ByteArray.size_extract];omega
  have zs:∀x:Int,(strOf [x]).size=1:=fun x=>by rw[n3];rfl
  have hw:zW zU (ze m 2+1)=ze m 2+1:=by
   rcases h2 with e|e<;>rw[e]<;>decide
  rw[Bool.not_true,zD,show((2:Int)).toNat=2 from rfl,show((3:Int)).toNat=3 from rfl,zT (by omega),zC,show(2:Int)=((2:Nat):Int) from rfl,zi (by omega),hw,zT (by rw[z1,zs];decide),zC,zT (by omega),zC,zT (by rw[j7,z1,zs,z3];decide),zC,if_pos rfl]
  congr 2
  apply wy
  rw[oi,oi,sD,sD,h4,hb,(PW hr).1]
  have hx:zm (ze m 2+1):=by unfold zm;omega
  rw[z21 (xs:=[ze m 2+1]) (by simpa using hx)]
  rfl
def fq(l:List bg)(no:Int):Option bg:=l.find? fun v=>decide (v.1=no)
theorem Od(no:Int):∀(l:List bg) (i:Int),bB (fun i (x:bg) (s:Unit) K=>bif decide (x.1=no) then some (Sum.inl (x.2.1,true)) else K s) (fun _=>some (Sum.inr ())) l i ()=some (match fq l no with
 |some v=> .inl (v.2.1,true)
 |none=>(.inr ():Sum kb Unit))
 | [],i=>rfl
 |x::r,i=>by
  rw[bB]
  unfold fq
  rw[List.find?_cons]
  cases hx:decide (x.1=no) with
  |true=>rfl
  |false=>exact Od no r (i+1)
theorem al6(m:bI)(no:Int)(h:m.2.1.length<=1000000):oG m no=some (match fq m.2.1 no with
 |some v=>(v.2.1,true)
 |none=>(bs [],false)):=by
 unfold oG VM
 dsimp only
 have:=cD nZ m.2.1 (by rw[zh];omega) (fun i (x:bg) (s:Unit) K=>bif decide (x.1=no) then some (Sum.inl (x.2.1,true)) else K s) (fun _=>some (Sum.inr ())) (fun k i s=>RG k no m.2.1 (m.2.1.length:Int) i) (fun k i s=>rfl) ()
 rw[this,Od]
 cases fq m.2.1 no<;>rfl
def iY(s:aV)(e:Int):ByteArray:=match fq s.2.2.2.1 e with
 |some c=>c.2.1
 |none=>match fq s.2.2.2.1 0 with
  |some c=>c.2.1
  |none=>bs []
theorem Mz(s:aV)(e:Int)(q:List Int)(n i0:Int):∀(l:List bg) (i:Int),bB (fun i (x:bg) (u:Unit) K=>bif decide (x.1=e) then some (Sum.inl (x.2.1,q,n,i0,s)) else K u) (fun _=>some (Sum.inr (q,n,i0,s))) l i ()=some (match fq l e with
 |some v=> .inl (v.2.1,q,n,i0,s)
 |none=>(.inr (q,n,i0,s):Sum (ByteArray×List Int×Int×Int×aV) (List Int×Int×Int×aV)))
 | [],i=>rfl
 |x::r,i=>by
  rw[bB]
  unfold fq
  rw[List.find?_cons]
  cases hx:decide (x.1=e) with
  |true=>rfl
  |false=>exact Mz s e q n i0 r (i+1)
theorem anK(s:aV)(hs:s.2.2.2.1.length<=1000000)(e:Int)(q:List Int)(n i0:Int):H9 af e q n i0 s.2.2.2.1 (s.2.2.2.1.length:Int) 0 s=some (match fq s.2.2.2.1 e with
 |some v=> .inl (v.2.1,q,n,i0,s)
 |none=>(.inr (q,n,i0,s):Sum (ByteArray×List Int×Int×Int×aV) (List Int×Int×Int×aV))):=by
 rw[<-Mz s e q n i0 s.2.2.2.1 0]
 exact cD nZ s.2.2.2.1 (by rw[zh];omega) (fun i (x:bg) (u:Unit) K=>bif decide (x.1=e) then some (Sum.inl (x.2.1,q,n,i0,s)) else K u) (fun _=>some (Sum.inr (q,n,i0,s))) (fun k i u=>H9 k e q n i0 s.2.2.2.1 (s.2.2.2.1.length:Int) i s) (fun k i u=>rfl) ()
theorem al0(s:aV)(hs:s.2.2.2.1.length<=1000000)(e:Int):tX s e=some (iY s e):=by
 obtain⟨k,hk⟩:=IE
 have h1:=anK s hs
 unfold tX Wa iY
 dsimp only
 rw[show(List.length [e,(0:Int)]:Int)=2 from rfl]
 have step:∀(K i:Nat) (x:Int),i<2->List.getD [e,(0:Int)] i 0=x->BS (K+1) [e,0] 2 (i:Int) s=match fq s.2.2.2.1 x with
  |some v=>some (.inr v.2.1)
  |none=>BS K [e,0] 2 ((i+1:Nat):Int) s:=by
  intro K i x hi hx
  conv=>lhs;unfold BS RO
  rw[zT (by omega),zC,show(List.length [e,(0:Int)])=2 from rfl,zi hi,Int.toNat_natCast,hx]
  dsimp only
  rw[h1,zc]
  cases fq s.2.2.2.1 x with
  |some v=>rfl
  |none=>
   dsimp only
   rw[Sum.elim_inr]
   unfold Wb
   dsimp only
   rw[zv (by omega)]
 have s0:=step (k+1+1) 0 e (by decide) rfl
 have s1:=step (k+1) 1 0 (by decide) rfl
 rw[show((0:Nat):Int)=0 from rfl] at s0
 rw[hk,s0]
 cases fq s.2.2.2.1 e with
 |some v=>rfl
 |none=>
  dsimp only
  rw[s1]
  cases fq s.2.2.2.1 0 with
  |some v=>rfl
  |none=>
   dsimp only
   unfold BS RO
   rw[zF (by decide)];rfl
def fV(l:List bg):List Int->bI->bI
 | [],o=>o
 |no::r,o=>fV l r (match fq l no with
  |some v=>eP o no v.2.1
  |none=>o)
def tf(s:aV)(m:bI)(e:Int):bI:=eP (fV m.2.1 s.2.2.1 (dB m.1,[],())) 39 (iY s e)
def F2(s:aV)(m:bI)(f:bL):bI×Bool:=if dS m.1=true then(tf s m f.1,true) else(dH,false)
theorem zrs(m:bI)(no:Int)(t:ByteArray):(eP m no t).2.1.length<=m.2.1.length+1:=Ue m no t
theorem zi5(l:List bg):∀(e:List Int) (o:bI),(fV l e o).2.1.length<=o.2.1.length+e.length
 | [],o=>Nat.le_refl _
 |no::r,o=>by
  rw[fV,List.length_cons]
  have h:=zi5 l r (match fq l no with
   |some v=>eP o no v.2.1
   |none=>o)
  cases hx:fq l no with
  |some v=>
   rw[hx] at h
   have:=zrs o no v.2.1
   dsimp only at h⊢
   omega
  |none=>rw[hx] at h;dsimp only at h⊢;omega
theorem zi7{ρ:Type}(m:bI)(hm:m.2.1.length<=1000000)(fin:bI->Option ρ):∀(l:List Int) (i:Int) (o:bI),o.2.1.length+l.length<=1000000->
 bB (fun i (x:Int) (o:bI) K=>(oG m x).bind fun r2=>(bif r2.2 then((iS o x r2.1).bind fun r3=>K r3) else K o)) fin l i o=fin (fV m.2.1 l o)
 | [],i,o,_=>rfl
 |x::r,i,o,h=>by
  rw[List.length_cons] at h
  rw[bB,al6 m x hm,zc,fV]
  cases hx:fq m.2.1 x with
  |some v=>
   have:=zrs o x v.2.1
   dsimp only
   rw[zC,Ug o x _ (by omega),zc]
   exact zi7 m hm fin r (i+1) _ (by omega)
  |none=>exact zi7 m hm fin r (i+1) o (by omega)
theorem aiy(s:aV)(m:bI)(f:bL)(hs:df s)(he:s.2.2.1.length<=300)(hm:eC m):tV s m f=some (F2 s m f):=by
 have CU:=hm.len
 unfold tV V1 F2
 rw[ac5 m.1 (by rw[zh];exact hm.vl),zc]
 cases hr:dS m.1 with
 |false=>rfl
 |true=>
  rw[if_pos rfl,if_pos rfl,Bool.not_true,zD]
  dsimp only
  have hl:=cD (0:Int) s.2.2.1 (by rw[zh];omega) (fun i (x:Int) (o:bI) K=>(oG m x).bind fun r2=>(bif r2.2 then((iS o x r2.1).bind fun r3=>K r3) else K o)) (fun o=>some (s,f,dH,o)) (fun k i o=>RL k s.2.2.1 (s.2.2.1.length:Int) i s m f dH o) (fun k i o=>rfl) (dB m.1,[],())
  have hb:=zi5 m.2.1 s.2.2.1 (dB m.1,[],())
  rw[hl,zi7 m (by omega) _ _ _ _ (by simp;omega),zc]
  unfold V2
  dsimp only at hb⊢
  rw[al0 s hs.gA,zc,Ug _ _ _ (by rw[List.length_nil] at hb;omega),zc]
  rfl
theorem zvl{a:Spec}:∀{l:List bg} {prev:List Int} {i:Int},fC a prev l i=none->∀c∈l,bp a c.2.1=0
 | [],_,_,_,c,hc=>by cases hc
 |x::r,prev,i,h,c,sT=>by
  rw[fC] at h
  by_cases hc:iX a prev x=0
  ·rw[zT hc,zC] at h
   rcases List.mem_cons.1 sT with rfl|sT
   ·unfold iX at hc
    cases h1:decide (c.1<0) with
    |true=>rw[h1] at hc;cases hc
    |false=>
     rw[h1,zD] at hc
     cases h2:decide (16<c.1) with
     |true=>rw[h2] at hc;cases hc
     |false=>
      rw[h2,zD] at hc
      cases h3:decide (c.1∈prev) with
      |true=>rw[h3] at hc;cases hc
      |false=>rw[h3,zD] at hc;exact hc
   ·exact zvl h c sT
  ·rw[zF hc] at h;cases h
structure uw(s:aV):Prop where
 iK:(iM s.1).1=0
 act:bm s.1 39=true
 gA:∀c∈s.2.2.2.1,bp (aJ s.1 39) c.2.1=0
 zero:(0:Int)∈s.2.2.2.1.map fun c=>c.1
theorem OM{s:aV}(h:(gi s).1=0):uw s:=by
 unfold gi at h
 by_cases h1:(iM s.1).1=0
 case neg=>rw[zF h1] at h;cases h
 rw[zT h1,Bool.not_true,zD] at h
 cases h2:bm s.1 39 with
 |false=>rw[h2] at h;cases h
 |true=>
  rw[h2,Bool.not_true,zD] at h
  have ne:∀{l:List Int} {prev:List Int} {i:Int} {e:Int×Int},gC s.1 prev l i=some e->e.1≠0:=by
   intro l
   induction l with
   |nil=>intro _ _ _ h;cases h
   |cons x r ih=>
    intro prev i e h
    rw[gC] at h
    by_cases hc:kB s.1 prev x=0
    ·rw[zT hc,zC] at h;exact ih h
    ·rw[zF hc,zD] at h;cases h;exact hc
  have nc:∀{l:List bg} {prev:List Int} {i:Int} {e:Int×Int},fC (aJ s.1 39) prev l i=some e->e.1≠0:=by
   intro l
   induction l with
   |nil=>intro _ _ _ h;cases h
   |cons x r ih=>
    intro prev i e h
    rw[fC] at h
    by_cases hc:iX (aJ s.1 39) prev x=0
    ·rw[zT hc,zC] at h;exact ih h
    ·rw[zF hc,zD] at h;cases h;exact hc
  cases h3:gC s.1 [] s.2.2.1 0 with
  |some e=>rw[h3] at h;exact absurd h (ne h3)
  |none=>
   rw[h3] at h
   dsimp only at h
   cases h4:fC (aJ s.1 39) [] s.2.2.2.1 0 with
   |some e=>rw[h4] at h;exact absurd h (nc h4)
   |none=>
    rw[h4] at h
    dsimp only at h
    by_cases h5:(0:Int)∈s.2.2.2.1.map fun c=>c.1
    ·exact⟨h1,h2,zvl h4,h5⟩
    ·rw[zF h5] at h;cases h
theorem akC{s:aV}(h:uw s)(e:Int):bp (aJ s.1 39) (iY s e)=0:=by
 unfold iY
 cases h1:fq s.2.2.2.1 e with
 |some c=>exact h.gA c (List.mem_of_find?_eq_some h1)
 |none=>
  cases h2:fq s.2.2.2.1 0 with
  |some c=>exact h.gA c (List.mem_of_find?_eq_some h2)
  |none=>
   obtain⟨c,hc,h0⟩:=List.mem_map.1 h.zero
   have:=List.find?_eq_none.1 h2 c hc
   exact absurd (zT h0) this
theorem MN(l:List bg):∀(e:List Int) (o:bI) (v:bg),v∈(fV l e o).2.1->v∈o.2.1\/v∈l
 | [],o,v,h=> .inl h
 |no::r,o,v,h=>by
  rw[fV] at h
  rcases MN l r _ v h with h|h
  ·cases hx:fq l no with
   |none=>rw[hx] at h;exact .inl h
   |some w=>
    rw[hx] at h
    rcases(Uf o no w.2.1 v).1 h with e|⟨h,_⟩
    ·have hw:=List.find?_some hx
     have hw:w.1=no:=by simpa using hw
     right
     rw[e,<-hw]
     exact List.mem_of_find?_eq_some hx
    ·exact .inl h
  ·exact .inr h
theorem zi6(l:List bg):∀(e:List Int) (o:bI),ka o.2.1->ka (fV l e o).2.1/\(fV l e o).1=o.1
 | [],o,h=>⟨h,rfl⟩
 |no::r,o,h=>by
  rw[fV]
  cases hx:fq l no with
  |none=>exact zi6 l r o h
  |some w=>
   obtain⟨h1,h2⟩:=zi6 l r (eP o no w.2.1) (zjd h no w.2.1)
   exact⟨h1,h2⟩
structure Part(s:zf)(m:bI):Prop where
 head:gm m.1=true->gR m.1=s.2.1
 vl:m.1.size<=1000
 len:m.2.1.length<=200
 iB:∀v∈m.2.1,bm s v.1=true/\bp (aJ s v.1) v.2.1=0/\v.2.1.size<=999
theorem Part.ok{s:zf}{m:bI}(h:Part s m):eC m:=⟨by have:=h.vl;omega,by have:=h.len;omega,fun v hv=>by have:=(h.iB v hv).2.2;omega⟩
theorem N1{s:aV}(hk:uw s)(ho:df s)(he:s.2.2.1.length<=300){m:bI}(hm:Part s.1 m)(e:Int)(hr:dS m.1=true):gV s.1 (tf s m e)/\hN (tf s m e)/\dS (tf s m e).1=false:=by
 obtain⟨r1,r2,r3⟩:=an7 hr
 obtain⟨b1,b2⟩:=zi6 m.2.1 s.2.2.1 (dB m.1,[],()) List.Pairwise.nil
 have xV:(tf s m e).1=dB m.1:=b2
 have ok:=(vX s.1).1 hk.iK
 have hc:=akC hk e
 have eU:(iY s e).size<=1099511627776:=by
  unfold iY
  split
  ·rename_i c h;exact ho.q9 c (List.mem_of_find?_eq_some h)
  ·split
   ·rename_i c h;exact ho.q9 c (List.mem_of_find?_eq_some h)
   ·exact Nat.zero_le _
 have hf:∀v∈(tf s m e).2.1,bm s.1 v.1=true/\bp (aJ s.1 v.1) v.2.1=0/\v.2.1.size<=999:=fun v hv=>by
  rcases(Uf _ _ _ v).1 hv with rfl|⟨hv,_⟩
  ·obtain⟨v1,v2,v3,_,_⟩:=(BP _ _ eU).1 hc
   have:=Ip v1
   exact⟨hk.act,hc,by dsimp only;omega⟩
  ·rcases MN _ _ _ v hv with hv|hv
   ·cases hv
   ·exact hm.iB v hv
 have uZ:ka (tf s m e).2.1:=zjd b1 39 (iY s e)
 refine⟨⟨hk.iK,by rw[xV];exact r1,by rw[xV,r2];exact hm.head (Uc hr).1,yw.2 ⟨fun v hv=>⟨(hf v hv).1,(hf v hv).2.1⟩,uZ,fun v hv=>by have:=EO ok (hf v hv).1;omega⟩⟩,⟨by rw[xV];have:=(pA.1 r1).1;omega,?_,fun v hv=>by have:=(hf v hv).2.2;omega⟩,by rw[xV];exact r3⟩
 have h1:=zi5 m.2.1 s.2.2.1 (dB m.1,[],())
 have h2:=zrs (fV m.2.1 s.2.2.1 (dB m.1,[],())) 39 (iY s e)
 unfold tf
 dsimp only[List.length_nil] at h1
 omega
theorem ME(s:zf)(b:ByteArray)(hb:b.size<=1099511627776):∀(r:List Int) (a:Nat) (o:List bg),(∀v∈o,bm s v.1=true/\bp (aJ s v.1) v.2.1=0/\v.2.1.size<=999)->(∀v∈(gd s b r a o).1,bm s v.1=true/\bp (aJ s v.1) v.2.1=0/\v.2.1.size<=999)/\(gd s b r a o).1.length<=o.length+r.length
 | [],a,o,h=>⟨h,Nat.le_refl _⟩
 |no::r,a,o,h=>by
  rw[gd]
  split
  ·exact⟨h,Nat.le_add_right _ _⟩
  ·rename_i hf
   have hf:bm s no=true:=by cases hh:bm s no with
    |true=>rfl
    |false=>exact absurd hh hf
   split
   ·exact⟨h,Nat.le_add_right _ _⟩
   ·rename_i hz
    generalize hg:n5 s.1 (aJ s no) b (a:Int)=g at hz⊢
    obtain⟨t,z,e⟩:=g
    dsimp only at hz⊢
    have he:e=0:=Classical.byContradiction fun hn=>hz hn
    subst he
    obtain⟨c1,c2,c3,c4,c5,c6⟩:=zdn hb hg
    have h2:∀v∈o++ [((no,t,()):bg)],bm s v.1=true/\bp (aJ s v.1) v.2.1=0/\v.2.1.size<=999:=fun v hv=>by
     rcases List.mem_append.1 hv with hv|hv
     ·exact h v hv
     ·rw[List.mem_singleton.1 hv];exact⟨hf,c2,c5⟩
    obtain⟨i1,i2⟩:=ME s b hb r z.toNat _ h2
    rw[List.length_append,List.length_singleton] at i2
    exact⟨i1,by rw[List.length_cons];omega⟩
theorem Bq(s:zf):Part s dH:=⟨fun h=>(by cases h),Nat.zero_le _,Nat.zero_le _,fun v hv=>(by cases hv)⟩
theorem N4(s:zf)(b:ByteArray)(hb:b.size<=1099511627776):Part s (dZ s b).1:=by
 unfold dZ
 split
 ·exact Bq s
 cases ht:j6 s b with
 |inl e=>exact Bq s
 |inr q=>
  unfold j6 at ht
  split at ht
  ·cases ht
  split at ht
  case isFalse=>cases ht
  rename_i hr
  injection ht with ht
  subst ht
  have h4:=(pA.1 hr.1).1
  show Part s (mD s b (gQ s.1 b) _).1
  unfold mD
  split
  ·exact⟨fun _=>hr.2,by dsimp only;omega,Nat.zero_le _,fun v hv=>by cases hv⟩
  ·obtain⟨p1,p2⟩:=ME s b hb (elems (cw s.1 b (fw s.1)).1 (cw s.1 b (fw s.1)).2.1) (cw s.1 b (fw s.1)).2.2.1.toNat [] (fun v hv=>by cases hv)
   have:=Uo (cw s.1 b (fw s.1)).1 (cw s.1 b (fw s.1)).2.1
   rw[List.length_nil] at p2
   exact⟨fun _=>hr.2,by dsimp only;omega,by dsimp only;omega,p1⟩
def gX(p:aV)(n:Int)(m:bI)(f:bL):Int×ByteArray:=
 if dS m.1=true then(if n<((dE p.1 (tf p m f.1)).size:Int) then(3,bs []) else(2,dE p.1 (tf p m f.1))) else(3,bs [])
def po(p q:aV)(n:Int)(m:bI)(t:bI×bL):Int×ByteArray:=
 if¬t.2.1=0 then gX p n m t.2 else if n<((dE q.1 t.1).size:Int) then gX p n m (5,129,()) else(1,dE q.1 t.1)
def pn(p q:aV)(n:Int)(d:bI×bL):Int×ByteArray:=if¬d.2.1=0 then gX p n d.1 d.2 else po p q n d.1 (mU p.2.1 p.1 q.1 d.1)
def ej(p q:aV)(n:Int)(b:ByteArray):Int×ByteArray:=pn p q n (dZ p.1 b)
structure oq(p q:aV)(n:Int):Prop where
 n1:1<=n
 n2:n<=65535
 rp:(gi p).1=0
 rq:(gi q).1=0
 mp:(dG p.2.1 p.1 q.1).1=0
 mq:(dG q.2.1 q.1 p.1).1=0
theorem oq.symm{p q:aV}{n:Int}(h:oq p q n):oq q p n:=⟨h.n1,h.n2,h.rq,h.rp,h.mq,h.mp⟩
theorem cu.symm{p q:aV}(h:cu p q):cu q p:=⟨h.sq,h.sp,h.qm,h.pm,h.Dj,h.Df,h.qe,h.pe,h.qml,h.pml,h.ab6,h.ab5⟩
theorem s8{p q:aV}{n:Int}:(eS p q n).1=0↔oq p q n:=by
 unfold eS
 by_cases h1:n<1
 ·rw[zT h1];exact⟨fun h=>(by cases h),fun h=>by have:=h.n1;omega⟩
 by_cases h2:65535<n
 ·rw[zF h1,zT h2];exact⟨fun h=>(by cases h),fun h=>by have:=h.n2;omega⟩
 rw[zF h1,zF h2,zD,zD]
 by_cases h3:(gi p).1=0
 case neg=>rw[zF h3];exact⟨fun h=>absurd h h3,fun h=>absurd h.rp h3⟩
 rw[zT h3,Bool.not_true,zD]
 by_cases h4:(dG p.2.1 p.1 q.1).1=0
 case neg=>rw[zF h4];exact⟨fun h=>absurd h h4,fun h=>absurd h.mp h4⟩
 rw[zT h4,Bool.not_true,zD]
 by_cases h5:(gi q).1=0
 case neg=>rw[zF h5];exact⟨fun h=>absurd h h5,fun h=>absurd h.rq h5⟩
 rw[zT h5,Bool.not_true,zD]
 by_cases h6:(dG q.2.1 q.1 p.1).1=0
 case neg=>rw[zF h6];exact⟨fun h=>absurd h h6,fun h=>absurd h.mq h6⟩
 rw[zT h6]
 exact⟨fun _=>⟨by omega,by omega,h3,h5,h4,h6⟩,fun _=>rfl⟩
theorem zr8{s:zf}{m:bI}(h:gV s m):2<=(dE s m).size:=by
 have ho:=(vX s).1 h.iK
 have:=(z157 (s:=s) ho.1 (m:=m.1) (y:=bs []) h.right).2
 have hz:2<=fw s.1:=by unfold fw;split<;>omega
 unfold dE
 rw[j7,j7]
 omega
theorem P7{s:zf}{m:bI}(h:gV s m):re s m=(dE s m,hJ):=by
 unfold re
 rw[if_pos (Ro.2 h)]
theorem z154{p q:aV}(h:cu p q){m:bI}(hm:eC m)(ht:(mU p.2.1 p.1 q.1 m).2.1=0):gV q.1 (mU p.2.1 p.1 q.1 m).1/\eC (mU p.2.1 p.1 q.1 m).1:=by
 rcases zb6 p.2.1 p.1 q.1 m with⟨f,hf,e⟩|⟨ys,hd,e⟩
 ·rw[e] at ht;exact absurd ht hf
 ·rw[e];exact⟨hd.out h.pm hm,hd.ok h.pm hm⟩
section
variable {p q:aV} {n:Int} (h:cu p q) (h0:oq p q n)
include h h0
theorem EP{m:bI}(hm:Part p.1 m)(f:bL)(cl:List aV):lp m f p (cl,n,())=some (gX p n m f):=by
 unfold lp Wj gX
 rw[aiy p m f h.sp h.pe hm.ok,zc]
 unfold F2
 cases hr:dS m.1 with
 |false=>rfl
 |true=>
  obtain⟨b1,b2,_⟩:=N1 (OM h0.rp) h.sp h.pe hm f.1 hr
  have hp:=zr8 b1
  rw[if_pos rfl,if_pos rfl]
  dsimp only
  rw[Bool.not_true,zD,Mp p.1 _ h.sp.iK b2.ok,zc,P7 b1]
  dsimp only
  rw[zF (fun e=>by rw[e] at hp;exact absurd hp (by decide)),zD]
  by_cases hn:n<((dE p.1 (tf p m f.1)).size:Int)
  ·rw[zT hn,if_pos hn];rfl
  ·rw[zF hn,if_neg hn];rfl
theorem QE(b:ByteArray)(hb:b.size<=1099511627776)(cl:List aV):((rP p.1 b).bind fun r2=>(bif(!(decide (r2.2.1=(0:Int)))) then((lp r2.1 r2.2 p (cl,n,())).bind fun r3=>some (r3.1,r3.2)) else((rR p.2.1 p.1 q.1 r2.1).bind fun r4=>(bif(!(decide (r4.2.1=(0:Int)))) then((lp r2.1 r4.2 p (cl,n,())).bind fun r5=>some (r5.1,r5.2)) else((oM q.1 r4.1).bind fun r6=>(bif(decide (n<((r6.1).size:Int))) then((lp r2.1 ((5:Int),(129:Int),()) p (cl,n,())).bind fun r7=>some (r7.1,r7.2)) else some ((1:Int),r6.1)))))))=some (ej p q n b):=by
 have lf:=N4 p.1 b hb
 have fO:=lf.ok
 rw[aeQ p.1 b h.sp.iK hb,zc]
 unfold ej pn
 by_cases hd:(dZ p.1 b).2.1=0
 case neg=>rw[zF hd,Bool.not_false,zC,if_pos hd,EP h h0 lf,zc]
 rw[zT hd,Bool.not_true,zD,if_neg (fun e=>e hd),acA p.2.1 p.1 q.1 _ h.pm (by have:=h.pml;omega) fO (by have:=lf.len;omega) h.sp.iK h.sq.iK,zc]
 unfold po
 by_cases ht:(mU p.2.1 p.1 q.1 (dZ p.1 b).1).2.1=0
 case neg=>rw[zF ht,Bool.not_false,zC,if_pos ht,EP h h0 lf,zc]
 obtain⟨t1,t2⟩:=z154 h fO ht
 rw[zT ht,Bool.not_true,zD,if_neg (fun e=>e ht),Mp q.1 _ h.sq.iK t2,zc,P7 t1]
 dsimp only
 by_cases hn:n<((dE q.1 (mU p.2.1 p.1 q.1 (dZ p.1 b).1).1).size:Int)
 ·rw[zT hn,zC,if_pos hn,EP h h0 lf,zc]
 ·rw[zF hn,zD,if_neg hn]
end
def dI(p q:aV)(n link:Int)(b:ByteArray):Int×ByteArray:=
 if¬(eS p q n).1=0 then(0,bs []) else if link=0 then ej p q n b else if link=1 then ej q p n b else(0,bs [])
theorem adL(p q:aV)(n link:Int)(b:ByteArray)(h:cu p q)(hb:b.size<=1099511627776):ua ([p,q],n,()) link b=some (dI p q n link b):=by
 unfold ua Wi dI
 rw[ze6 p q n h,zc]
 by_cases hc:(eS p q n).1=0
 case neg=>rw[zF hc,if_pos hc];rfl
 have h0:=s8.1 hc
 rw[zT hc,Bool.not_true,zD,if_neg (fun e=>e hc)]
 by_cases l0:link=0
 ·subst l0
  rw[if_pos rfl,zF (by decide),zD,zF (by decide),zD]
  simp only[sB,sC,yt,Hs,Ht]
  exact QE h h0 b hb [p,q]
 ·rw[if_neg l0]
  by_cases l1:link=1
  ·subst l1
   rw[if_pos rfl,zF (by decide),zD,zF (by decide),zD]
   simp only[sB,sC,yu,Hs,Ht]
   exact QE h.symm h0.symm b hb [p,q]
  ·rw[if_neg l1]
   by_cases l2:link<0
   ·rw[zT l2];rfl
   ·rw[zF l2,zD,zT (by omega)];rfl
theorem zvb(p q:aV)(n:Int)(h:cu p q):oF ([p,q],n,())=some (decide ((eS p q n).1=0)):=by
 unfold oF Vj
 rw[adI p q n h,zc]
end bj

namespace bj
open Go.IntKind renaming wrap->zW,i64->zI,u8->zU
open Go Go.Ref
theorem P9(m:Int):Jm m=some (if m<1\/65535<m then .inl 5 else .inr (0,(m,false,[],()))):=by
 unfold Jm YW
 by_cases h1:m<1
 ·simp [h1]
 ·by_cases h2:65535<m<;>simp [h1,h2]
def aZ(m:Int)(l:List Int):Bool×List Int×List ByteArray:=l.foldl (aL m) (false,[],[])
theorem akW(m:Int)(l:List Int):∀(d:Bool) (b:List Int) (o:List ByteArray),l.foldl (aL m) (d,b,o)=((l.foldl (aL m) (d,b,[])).1,(l.foldl (aL m) (d,b,[])).2.1,o++(l.foldl (aL m) (d,b,[])).2.2):=by
 induction l with
 |nil=>intro d b o;simp
 |cons c r ih=>
  intro d b o
  rw[List.foldl_cons,List.foldl_cons]
  have h:aL m (d,b,o) c=((aL m (d,b,[]) c).1,(aL m (d,b,[]) c).2.1,o++(aL m (d,b,[]) c).2.2):=by
   unfold aL
   simp only
   split
   ·simp
   ·split
    ·simp
    ·split<;>simp
  rw[h,ih]
  generalize aL m (d,b,[]) c=st
  obtain⟨d',b',o'⟩:=st
  rw[ih d' b' o']
  simp
theorem ahm(m:Int)(n:Nat)(r:List Int):∀(w:List Int) (o:List ByteArray),2<=w.length->er w=n->w.length<2+n->
 r.foldl (aL m) (false,w,o)=if r.length<2+n-w.length then(false,w++r,o) else(r.drop (2+n-w.length)).foldl (aL m) (false,[],o++ [strOf ((w++r.take (2+n-w.length)).drop 2)]):=by
 induction r with
 |nil=>intro w o h1 h2 h3;simp;omega
 |cons c r ih=>
  intro w o h1 h2 h3
  rw[List.foldl_cons]
  have c9:er (w++ [c])=n:=by
   rw[<-h2]
   unfold er
   rw[if_neg (by simp;omega),if_neg (by omega)]
   have e:∀i,i<w.length->(w++ [c]).getD i 0=w.getD i 0:=fun i hi=>by
    rw[List.getD_eq_getElem?_getD,List.getElem?_append_left hi,List.getD_eq_getElem?_getD]
   rw[e 0 (by omega),e 1 (by omega)]
  have hlen:(w++ [c]).length=w.length+1:=by simp
  have hf:aL m (false,w,o) c=if w.length+1=2+n then(false,[],o++ [strOf ((w++ [c]).drop 2)]) else(false,w++ [c],o):=by
   unfold aL
   simp only[c9,hlen]
   rw[if_neg (by simp),if_neg (by omega)]
   by_cases e:w.length+1=2+n
   ·rw[if_pos e,if_pos ⟨by omega,by omega⟩]
   ·rw[if_neg e,if_neg (by omega)]
  rw[hf]
  by_cases e:w.length+1=2+n
  ·rw[if_pos e,if_neg (by simp;omega)]
   have:2+n-w.length=1:=by omega
   rw[this]
   simp
  ·rw[if_neg e,ih (w++ [c]) o (by simp;omega) c9 (by simp;omega),hlen]
   have e2:2+n-w.length=(2+n-(w.length+1))+1:=by omega
   rw[e2]
   by_cases e3:r.length<2+n-(w.length+1)
   ·rw[if_pos e3,if_pos (by simp;omega)]
    simp
   ·rw[if_neg e3,if_neg (by simp;omega)]
    simp
theorem z194(m:Int):∀(n:Nat) (l:List Int) (pos:Int) (o:List ByteArray),l.length<=n->0<=pos->(∀x∈l,zm x)->
 l.foldl (aL m) (false,[],o)=(decide (0<=(fK m pos l).2.2.2),(fK m pos l).2.1,o++(fK m pos l).1):=by
 intro n
 induction n using Nat.strongRecOn with
 |_ n ih=>
 intro l pos o hn hp hb
 rw[fK]
 by_cases c0:l.length<2
 ·rw[dif_pos c0]
  match l,c0 with
  | [],_=>simp
  | [x],_=>simp [aL,er]
 rw[dif_neg c0]
 match l,c0 with
 | [],c0=>exact absurd (by simp) c0
 | [x],c0=>exact absurd (by simp) c0
 |x::y::r,c0=>
  have hz:=Ud hb
  have sX:er [x,y]=er (x::y::r):=by
   unfold er;rw[if_neg (by simp),if_neg (by simp)];rfl
  have h1:aL m (false,[],o) x=(false,[x],o):=by simp [aL,er]
  rw[List.foldl_cons,List.foldl_cons,h1]
  have h2:aL m (false,[x],o) y=if er (x::y::r)=0\/m<er (x::y::r) then(true,[],o) else(false,[x,y],o):=by
   unfold aL
   have e1:([x]:List Int)++ [y]=[x,y]:=rfl
   simp only[e1,sX]
   rw[if_neg (by simp)]
   by_cases c1:er (x::y::r)=0\/m<er (x::y::r)
   ·rw[if_pos ⟨rfl,c1⟩,if_pos c1]
   ·rw[if_neg (fun h=>c1 h.2),if_neg c1,if_neg]
    intro h
    have:(([x,y]:List Int).length:Int)=2:=rfl
    omega
  rw[h2]
  by_cases c1:er (x::y::r)=0\/m<er (x::y::r)
  ·rw[if_pos c1,if_pos c1,HS]
   have:(0:Int)<=pos+2:=by omega
   simp [this]
  ·rw[if_neg c1,if_neg c1]
   generalize hzz:er (x::y::r)=z at*
   have C5:0<z:=by omega
   rw[ahm m z.toNat r [x,y] o (by simp) (by rw[sX];omega) (by simp;omega)]
   have e0:2+z.toNat-([x,y]:List Int).length=z.toNat:=by simp
   rw[e0]
   by_cases c3:((x::y::r).length:Int)-2<z
   ·rw[if_pos c3,if_pos (by simp at c3;omega)]
    simp
   ·rw[if_neg c3,if_neg (by simp at c3;omega)]
    have hd:(x::y::r).drop (2+z.toNat)=r.drop z.toNat:=by
     rw[Nat.add_comm];rfl
    have ht:((x::y::r).drop 2).take z.toNat=r.take z.toNat:=rfl
    have ht2:([x,y]++r.take z.toNat).drop 2=r.take z.toNat:=rfl
    rw[hd,ht,ht2]
    rw[ih (n-2) (by simp at hn;omega) (r.drop z.toNat) (pos+2+z) _ (by simp at hn⊢;omega) (by omega) (fun x hx=>hb x (by simp;exact .inr (.inr (List.mem_of_mem_drop hx))))]
    simp
theorem alJ(m:Int)(l:List Int)(hb:∀x∈l,zm x):aZ m l=(decide (0<=(fK m 0 l).2.2.2),(fK m 0 l).2.1,(fK m 0 l).1):=by
 unfold aZ;rw[z194 m l.length l 0 [] (Nat.le_refl _) (by omega) hb];simp
theorem zb2(m:Int)(a b:List Int):aZ m (a++b)=((b.foldl (aL m) ((aZ m a).1,(aZ m a).2.1,[])).1,(b.foldl (aL m) ((aZ m a).1,(aZ m a).2.1,[])).2.1,(aZ m a).2.2++(b.foldl (aL m) ((aZ m a).1,(aZ m a).2.1,[])).2.2):=by
 unfold aZ
 rw[List.foldl_append]
 generalize a.foldl (aL m) (false,[],[])=st
 obtain⟨d,c,o⟩:=st
 rw[akW]
def dR(m:Int)(l:List Int):Fr:=(m,(aZ m l).1,(aZ m l).2.1,())
theorem ahj(m:Int)(a b:List Int):feed (dR m a) b=((b.foldl (aL m) ((aZ m a).1,(aZ m a).2.1,[])).2.2,decide ((aZ m (a++b)).1=true/\(aZ m a).1=false),dR m (a++b)):=by
 unfold feed dR
 rw[zb2]
theorem zvy(m:Int)(st:Bool×List Int×List ByteArray)(c:Int)(hc:zm c)(h:(∀x∈st.2.1,zm x)):∀x∈(aL m st c).2.1,zm x:=by
 unfold aL
 split
 ·exact h
 ·split
  ·simp
  ·split
   ·simp
   ·intro x hx
    rcases List.mem_append.1 hx with hx|hx
    ·exact h x hx
    ·simp at hx;subst hx;exact hc
theorem ahl(m:Int)(l:List Int):∀(st:Bool×List Int×List ByteArray),(∀x∈l,zm x)->(∀x∈st.2.1,zm x)->∀x∈(l.foldl (aL m) st).2.1,zm x:=by
 induction l with
 |nil=>intro st _ h;exact h
 |cons c r ih=>intro st hl h;exact ih _ (fun x hx=>hl x (by simp [hx])) (zvy m st c (hl c (by simp)) h)
theorem ah5(m:Int)(l:List Int)(h:∀x∈l,zm x):∀x∈(aZ m l).2.1,zm x:=ahl m l _ h (by simp)
theorem Up(m:Int)(l:List Int):∀(st:Bool×List Int×List ByteArray),(l.foldl (aL m) st).2.1.length<=st.2.1.length+l.length/\(l.foldl (aL m) st).2.2.length<=st.2.2.length+l.length:=by
 induction l with
 |nil=>intro st;simp
 |cons c r ih=>
  intro st
  have h:(aL m st c).2.1.length<=st.2.1.length+1/\(aL m st c).2.2.length<=st.2.2.length+1:=by
   unfold aL
   split
   ·omega
   ·split
    ·simp
    ·split<;>simp
  have:=ih (aL m st c)
  simp only[List.foldl_cons,List.length_cons]
  omega
theorem zrk(m:Int)(l:List Int):(aZ m l).2.1.length<=l.length/\(aZ m l).2.2.length<=l.length:=by
 have:=Up m l (false,[],[])
 simpa [aZ] using this
theorem acL(m:Int)(a:List Int)(s:ByteArray)(ha:∀x∈a,zm x)(h:a.length+s.size<=4398046511104):Ce (dR m a) s=some (((bl s).foldl (aL m) ((aZ m a).1,(aZ m a).2.1,[])).2.2,decide ((aZ m (a++bl s)).1=true/\(aZ m a).1=false),dR m (a++bl s)):=by
 rw[anR _ _ (ah5 m a ha) (by have:=(zrk m a).1;simp only[dR];omega),ahj]
def sizes(l:List ByteArray):Nat:=(l.map ByteArray.size).sum
theorem acN(most:Int)(h0:0<=most)(h1:most<=1000000)(l:List ByteArray)(hl:l.length<=maxLen):∀(n j k:Nat) (c:Nat),j+n=l.length->n<k->c<=9223372036854775807->
 ∃b,(GI k l most c j).bind (fun e=>Sum.elim (fun we=>Vp we.1 we.2.1 we.2.2 (fun a0=>some a0)) (fun we=>Vq we.1 we.2 (fun a0=>some a0)) e)=some b/\(b=false->((c+sizes (l.drop j):Nat):Int)<=most):=by
 intro n
 rw[zh] at hl
 induction n with
 |zero=>
  intro j k c hj hk hc
  obtain⟨k,rfl⟩:∃k',k=k'+1:=⟨k-1,by omega⟩
  rw[GI,RB,zF (by omega),List.drop_eq_nil_of_le (by omega)]
  refine⟨decide (most<(c:Int)),rfl,fun h=> ?_⟩
  simp [sizes] at h⊢
  omega
 |succ n ih=>
  intro j k c hj hk hc
  obtain⟨k,rfl⟩:∃k',k=k'+1:=⟨k-1,by omega⟩
  have al:j<l.length:=by omega
  rw[GI,RB,zT (by omega),zC,zi al]
  have hx:l.getD ((j:Int)).toNat (bs [])=l[j]:=by rw[Int.toNat_natCast,List.getD_eq_getElem?_getD,List.getElem?_eq_getElem al];rfl
  rw[hx]
  by_cases c1:most<(c:Int)
  ·exact⟨true,by rw[zT c1];rfl,fun h=>by cases h⟩
  rw[zF c1,zD]
  by_cases c2:most<((l[j]).size:Int)
  ·exact⟨true,by rw[zT c2];rfl,fun h=>by cases h⟩
  rw[zF c2,zD,zi al,zv (by omega),zj (by omega) (by omega)]
  obtain⟨b,h1,h2⟩:=ih (j+1) k (c+(l[j]).size) (by omega) (by omega) (by omega)
  rw[show(((c:Int))+((l[j]).size:Int))=((c+(l[j]).size:Nat):Int) by omega]
  refine⟨b,h1,fun hb=> ?_⟩
  have:=h2 hb
  rw[List.drop_eq_getElem_cons al]
  simp only[sizes,List.map_cons,List.sum_cons] at this⊢
  omega
theorem anU(l:List ByteArray)(most:Int)(h0:0<=most)(h1:most<=1000000)(hl:l.length<=maxLen):∃b,wK l most=some b/\(b=false->((l.length+sizes l:Nat):Int)<=most):=by
 have:=acN most h0 h1 l hl l.length 0 af l.length (by omega) (by rw[zu];rw[zh] at hl;omega) (by rw[zh] at hl;omega)
 rw[List.drop_zero] at this
 exact this
theorem ahq{l:List ByteArray}{j:Nat}(h:j<l.length):l.getD ((j:Int)).toNat (bs [])=l[j]:=by
 rw[Int.toNat_natCast,List.getD_eq_getElem?_getD,List.getElem?_eq_getElem h];rfl
theorem akX(p:ByteArray)(h:p.size<=70000):Cf p=some (if p.size<1\/65535<p.size then(bs [],5) else(strOf [(p.size:Int)/256,(p.size:Int)% 256]++p,0)):=by
 unfold Cf YX
 by_cases h1:p.size<1
 ·rw[zT (by omega),if_pos (.inl h1)];rfl
 rw[zF (by omega),zD]
 by_cases h2:65535<p.size
 ·rw[zT (by omega),if_pos (.inr h2)];rfl
 rw[zF (by omega),if_neg (by omega),n3,zT (by simp;omega)]
 have e1:zW zU (Int.fdiv (p.size:Int) (2^min ((8:Int)).toNat 64))=(p.size:Int)/256:=by
  rw[Int.fdiv_eq_ediv_of_nonneg _ (by decide),SU]
  have:((2:Int)^min ((8:Int)).toNat 64)=256:=by decide
  rw[this];omega
 have e2:zW zU (p.size:Int)=(p.size:Int)% 256:=SU _
 rw[e1,e2];rfl
theorem acU(p:ByteArray)(h:p.size<=70000):rH p=some (if p.size<1\/65535<p.size then bs [] else strOf [(p.size:Int)/256,(p.size:Int)% 256]++p):=by
 unfold rH Vu
 by_cases h1:p.size<1
 ·rw[zT (by omega),if_pos (.inl h1)];rfl
 rw[zF (by omega),zD]
 by_cases h2:65535<p.size
 ·rw[zT (by omega),if_pos (.inr h2)];rfl
 rw[zF (by omega),if_neg (by omega),n3,zT (by simp;omega)]
 have e1:zW zU (zW zI (Int.tdiv (p.size:Int) (256:Int)))=(p.size:Int)/256:=by
  rw[Int.tdiv_eq_ediv_of_nonneg (by omega),zj (by omega) (by omega),SU];omega
 have e2:zW zU (Int.tmod (p.size:Int) (256:Int))=(p.size:Int)% 256:=by
  rw[Int.tmod_eq_emod_of_nonneg (by omega),SU];omega
 rw[e1,e2];rfl
theorem NR{e:TypeId}{l:List ByteArray}(h:Wf (.sl e .str) l):l.length<=maxLen:=h.1
def ti(m:Int)(b:List Int):Prop:=b.length<2\/(0<er b/\er b<=m/\(b.length:Int)<2+er b)
theorem OP{b:List Int}{c:Int}(h:2<=b.length):er (b++ [c])=er b:=by
 unfold er
 rw[if_neg (by simp;omega),if_neg (by omega)]
 have e:∀i,i<b.length->(b++ [c]).getD i 0=b.getD i 0:=fun i hi=>by
  rw[List.getD_eq_getElem?_getD,List.getElem?_append_left hi,List.getD_eq_getElem?_getD]
 rw[e 0 (by omega),e 1 (by omega)]
def ki(m:Int)(p:ByteArray):Prop:=1<=p.size/\(p.size:Int)<=m
theorem ahp(m:Int)(st:Bool×List Int×List ByteArray)(c:Int)(hc:zm c)(hb:∀x∈st.2.1,zm x)(hi:ti m st.2.1)(ho:∀p∈st.2.2,ki m p):ti m (aL m st c).2.1/\∀p∈(aL m st c).2.2,ki m p:=by
 have si:∀x∈st.2.1++ [c],zm x:=fun x hx=>by
  rcases List.mem_append.1 hx with h|h
  ·exact hb x h
  ·simp at h;subst h;exact hc
 have hz:=Ud si
 have hl:(st.2.1++ [c]).length=st.2.1.length+1:=by simp
 unfold aL
 split
 ·exact⟨hi,ho⟩
 split
 ·exact⟨.inl (by simp),ho⟩
 split
 ·rename_i h1 h2 h3
  refine⟨.inl (by simp),fun p hp=> ?_⟩
  rcases List.mem_append.1 hp with hp|hp
  ·exact ho p hp
  ·simp at hp
   subst hp
   unfold ki
   rw[n3]
   simp only[List.length_drop]
   have h4:2<=st.2.1.length:=by omega
   have h5:=OP (c:=c) h4
   rcases hi with hi|hi
   ·omega
   ·omega
 ·rename_i h1 h2 h3
  refine⟨?_,ho⟩
  simp only
  unfold ti
  rw[hl]
  by_cases h4:2<=st.2.1.length
  ·have h5:=OP (c:=c) h4
   rcases hi with hi|hi
   ·omega
   ·right
    refine⟨by omega,by omega,?_⟩
    by_cases h6:((st.2.1++ [c]).length:Int)=2+er (st.2.1++ [c])
    ·exact absurd ⟨h6,by omega⟩ h3
    ·omega
  ·by_cases h6:st.2.1.length=1
   ·right
    have h7:¬(er (st.2.1++ [c])=0\/m<er (st.2.1++ [c])):=fun h=>h2 ⟨by omega,h⟩
    omega
   ·left;omega
theorem akV(m:Int)(l:List Int):∀(st:Bool×List Int×List ByteArray),(∀x∈l,zm x)->(∀x∈st.2.1,zm x)->ti m st.2.1->(∀p∈st.2.2,ki m p)->ti m (l.foldl (aL m) st).2.1/\∀p∈(l.foldl (aL m) st).2.2,ki m p:=by
 induction l with
 |nil=>intro st _ _ h1 h2;exact⟨h1,h2⟩
 |cons c r ih=>
  intro st hl hb h1 h2
  have hc:=hl c (by simp)
  obtain⟨g1,g2⟩:=ahp m st c hc hb h1 h2
  exact ih _ (fun x hx=>hl x (by simp [hx])) (zvy m st c hc hb) g1 g2
theorem aee(m:Int)(p:ByteArray)(h1:1<=p.size)(h2:p.size<=65535)(o:List ByteArray):(bl (strOf [(p.size:Int)/256,(p.size:Int)% 256]++p)).foldl (aL m) (false,[],o)=if m<p.size then(true,[],o) else(false,[],o++ [p]):=by
 have hb:bl (strOf [(p.size:Int)/256,(p.size:Int)% 256]++p)=(p.size:Int)/256::(p.size:Int)% 256::bl p:=by
  rw[oi,z21];rfl
  intro x hx
  simp at hx
  unfold zm
  omega
 rw[z194 m _ _ 0 o (Nat.le_refl _) (by omega) (fun x hx=>j8 hx),hb,fK,dif_neg (by simp)]
 have hz:er ((p.size:Int)/256::(p.size:Int)% 256::bl p)=p.size:=by
  unfold er;rw[if_neg (by simp)];simp;omega
 rw[hz]
 by_cases h:m<p.size
 ·rw[if_pos (.inr h),if_pos h];simp
 ·rw[if_neg (by omega),if_neg h,if_neg (by simp [zg];omega)]
  have e1:List.drop (2+((p.size:Nat):Int).toNat) ((p.size:Int)/256::(p.size:Int)% 256::bl p)=[]:=by
   apply List.drop_eq_nil_of_le;simp [zg];omega
  have e2:List.take ((p.size:Nat):Int).toNat (List.drop 2 ((p.size:Int)/256::(p.size:Int)% 256::bl p))=bl p:=by
   rw[Int.toNat_natCast,<-zg];exact List.take_length
  rw[e1,e2,fK,dif_pos (by simp),vH]
  simp
def cI(l:List ByteArray):ByteArray:=l.foldl (· ++ ·) (bs [])
theorem ahn(l:List ByteArray):∀a:ByteArray,bl (l.foldl (· ++ ·) a)=bl a++(l.map bl).flatten:=by
 induction l with
 |nil=>intro a;simp
 |cons x r ih=>intro a;rw[List.foldl_cons,ih,oi];simp
theorem zr2(l:List ByteArray):bl (cI l)=(l.map bl).flatten:=by
 unfold cI;rw[ahn,zr1];simp
theorem ahv(l:List ByteArray)(hl:l.length<=maxLen):∀(n j k:Nat) (a:ByteArray),j+n=l.length->n<k->a.size+sizes (l.drop j)<=1000000000->
 GJ k l a j=some ((l.drop j).foldl (· ++ ·) a):=by
 intro n
 rw[zh] at hl
 induction n with
 |zero=>
  intro j k a hj hk hs
  obtain⟨k,rfl⟩:∃k',k=k'+1:=⟨k-1,by omega⟩
  rw[GJ,RC,zF (by omega),List.drop_eq_nil_of_le (by omega)];rfl
 |succ n ih=>
  intro j k a hj hk hs
  obtain⟨k,rfl⟩:∃k',k=k'+1:=⟨k-1,by omega⟩
  have al:j<l.length:=by omega
  rw[List.drop_eq_getElem_cons al] at hs
  simp only[sizes,List.map_cons,List.sum_cons] at hs
  rw[GJ,RC,zT (by omega),zC,zi al,ahq al,zT (by omega),zC,zv (by omega),ih (j+1) k (a++l[j]) (by omega) (by omega) (by rw[ByteArray.size_append];simp only[sizes];omega),List.drop_eq_getElem_cons al]
  rfl
theorem al5(l:List ByteArray)(hl:l.length<=maxLen)(hs:sizes l<=1000000000):tK l=some (cI l):=by
 unfold tK Vs
 have:=ahv l hl l.length 0 af (bs []) (by omega) (by rw[zu];rw[zh] at hl;omega) (by rw[List.drop_zero];have:(bs []).size=0:=rfl;omega)
 rw[show((0:Nat):Int)=0 from rfl] at this
 simp only[this,zc,Vt]
 rfl
theorem aen(l:List ByteArray):(cI l).size=sizes l:=by
 rw[<-zg,zr2]
 unfold sizes
 induction l with
 |nil=>rfl
 |cons x r ih=>simp only[List.map_cons,List.flatten_cons,List.length_append,List.sum_cons,zg] at ih⊢;omega
theorem ML:∀{l:List bq} {seen:List ByteArray} {i:Int},iA seen l i=none->(∀p∈l,p.1∉seen)/\l.Pairwise fun x y=>x.1≠y.1
 | [],seen,i,h=>⟨fun p hp=>(by cases hp),List.Pairwise.nil⟩
 |q::r,seen,i,h=>by
  rw[iA] at h
  by_cases e:q.1∈seen
  ·rw[if_pos e] at h;cases h
  ·rw[if_neg e] at h
   obtain⟨h1,h2⟩:=ML h
   refine⟨fun p hp=> ?_,List.pairwise_cons.2 ⟨fun p hp he=> ?_,h2⟩⟩
   ·rcases List.mem_cons.1 hp with rfl|hp
    ·exact e
    ·exact fun hm=>h1 p hp (List.mem_append_left _ hm)
   ·exact h1 p hp (by rw[he];simp)
theorem zid{α:Type}{p:α->Bool}:∀{l:List α} {x:α},x∈l->p x=true->(∀y∈l,p y=true->y=x)->l.find? p=some x
 | [],x,h,_,_=>by cases h
 |a::r,x,h,hp,hu=>by
  rw[List.find?_cons]
  cases ha:p a with
  |true=>rw[hu a List.mem_cons_self ha]
  |false=>
   rcases List.mem_cons.1 h with rfl|h
   ·rw[hp] at ha;cases ha
   ·exact zid h hp fun y hy=>hu y (List.mem_cons_of_mem _ hy)
theorem aly{l:List bq}(h:l.Pairwise fun x y=>x.1≠y.1):∀x∈l,∀y∈l,x.1=y.1->x=y:=by
 induction l with
 |nil=>intro x hx;cases hx
 |cons a r ih=>
  obtain⟨h1,h2⟩:=List.pairwise_cons.1 h
  intro x hx y hy e
  rcases List.mem_cons.1 hx with ex|Bg
  ·rcases List.mem_cons.1 hy with ey|C4
   ·rw[ex,ey]
   ·rw[ex] at e;exact absurd e (h1 y C4)
  ·rcases List.mem_cons.1 hy with ey|C4
   ·rw[ey] at e;exact absurd e.symm (h1 x Bg)
   ·exact ih h2 x Bg y C4 e
theorem adQ{l:List bq}(h:l.Pairwise fun x y=>x.1≠y.1){p:bq}(hp:p∈l):zq l p.1=(p.2.1,true):=by
 unfold zq
 rw[zid hp (by simp) fun y hy he=>aly h y hy p hp (of_decide_eq_true he)]
theorem zoj{l:List bq}(h:AH l=true){t:ByteArray}(ht:(zq l t).2=true):zq (dX l) (zq l t).1=(t,true):=by
 obtain⟨p,hp,e1,e2⟩:=z85 ht
 rw[e2,<-e1]
 have hm:((p.2.1,p.1,()):bq)∈dX l:=List.mem_map.2 ⟨p,hp,rfl⟩
 exact adQ (ML (zwt (EG.1 h).2).2).2 hm
theorem ako(c:Nat):bk (List.replicate c 48)=true:=by
 rw[bk,List.all_eq_true]
 intro x hx
 rw[(List.mem_replicate.1 hx).2];rfl
theorem akp(c:Nat):fL (List.replicate c 48)=true:=by
 rw[fL,List.all_eq_true]
 intro x hx
 rw[(List.mem_replicate.1 hx).2];rfl
theorem PV{t:ByteArray}{w:Int}(h1:1<=t.size)(h2:(t.size:Int)<=w)(h3:w<=999)(hd:bk (bl t)=true):dm t w=(strOf (List.replicate (w-t.size).toNat 48++bl t),true):=by
 rw[ZQ ⟨h1,by omega,hd,by omega,h3⟩,zT h2];rfl
theorem ahQ{t:ByteArray}{w:Int}(h1:1<=t.size)(h2:(t.size:Int)<=w)(h3:w<=999)(hd:bk (bl t)=true):dm (dm t w).1 (t.size:Int)=(t,true):=by
 rw[PV h1 h2 h3 hd]
 show dm (strOf (List.replicate (w-t.size).toNat 48++bl t)) _=_
 obtain⟨c,hc⟩:∃c:Nat,w=t.size+c:=⟨(w-t.size).toNat,by omega⟩
 rw[show(w-(t.size:Int)).toNat=c by omega]
 have AR:bk (List.replicate c 48++bl t)=true:=by
  have e:bk (List.replicate c 48++bl t)=(bk (List.replicate c 48)&&bk (bl t)):=List.all_append ..
  rw[e,ako,hd];rfl
 have kC:(List.replicate c (48:Int)++bl t).length=c+t.size:=by rw[List.length_append,List.length_replicate,zg]
 rw[ZQ ⟨by rw[n3];omega,by rw[n3];omega,by rw[z21 (Rj AR)];exact AR,by omega,by omega⟩,n3,kC,z21 (Rj AR)]
 cases c with
 |zero=>
  rw[zT (by omega),zC,show((t.size:Int)-((0+t.size:Nat):Int)).toNat=0 by omega,List.replicate_zero,List.nil_append,List.nil_append,vH]
 |succ c=>
  rw[zF (by omega),zD,show c+1+t.size-(t.size:Int).toNat=c+1 by omega,List.take_left' (by simp),List.drop_left' (by simp),akp,vH];rfl
theorem Ur{r:aO}{a b:zf}(hu:yH r a b=true):r.1=1\/(r.1=4/\(aJ a r.2.1).2.2.2.1<=(aJ b r.2.2.1).2.2.2.1)\/(r.1=5/\AH r.2.2.2.2.1=true):=by
 unfold yH at hu
 by_cases k1:r.1=1
 ·exact .inl k1
 by_cases k4:r.1=4
 ·rw[zF k1,zT k4,zD,zC] at hu
  exact .inr (.inl ⟨k4,of_decide_eq_true hu⟩)
 by_cases k5:r.1=5
 ·rw[zF k1,zF k4,zT k5] at hu
  exact .inr (.inr ⟨k5,hu⟩)
 rw[zF k1,zF k4,zF k5] at hu
 cases hu
theorem Qm{r:aO}(k:r.1=1)(b:zf)(t:ByteArray):zr r b t=((r.2.2.1,t,()),0):=by
 unfold zr;rw[zT k];rfl
theorem Qn{r:aO}(k:r.1=4){b:zf}(hb:bm b r.2.2.1=true)(t:ByteArray):zr r b t=(bif !(dm t (aJ b r.2.2.1).2.2.2.1).2 then(kW,5) else((r.2.2.1,(dm t (aJ b r.2.2.1).2.2.2.1).1,()),0)):=by
 unfold zr
 rw[zF (by omega:¬r.1=1),zF (by omega:¬r.1=2),zF (by omega:¬r.1=3),zT k,hb];rfl
theorem Qo{r:aO}(k:r.1=5)(b:zf)(t:ByteArray):zr r b t=(bif !(zq r.2.2.2.2.1 t).2 then(kW,15) else((r.2.2.1,(zq r.2.2.2.2.1 t).1,()),0)):=by
 unfold zr
 rw[zF (by omega:¬r.1=1),zF (by omega:¬r.1=2),zF (by omega:¬r.1=3),zF (by omega:¬r.1=4),zT k];rfl
theorem gu.ab4{r:aO}{a b:zf}(h:gu r a b)(k:r.1=4):hD (aJ a r.2.1)=true/\hD (aJ b r.2.2.1)=true:=by
 have hk:=h.kind
 unfold jh at hk
 rw[zF (by omega:¬r.1=1),zF (by omega:¬r.1=3),zT k,zD,zD,zC] at hk
 cases h1:hD (aJ a r.2.1) with
 |false=>rw[h1] at hk;simp at hk
 |true=>
  cases h2:hD (aJ b r.2.2.1) with
  |false=>rw[h1,h2] at hk;simp at hk
  |true=>exact⟨rfl,rfl⟩
theorem alx{r:aO}{a b:zf}(h:gu r a b)(ob:gW b)(k:r.1=4)(hm:(aJ a r.2.1).2.2.2.1<=(aJ b r.2.2.1).2.2.2.1){t:ByteArray}(ht:t.size<=1099511627776)(hv:bp (aJ a r.2.1) t=0):
 1<=t.size/\(t.size:Int)=(aJ a r.2.1).2.2.2.1/\(t.size:Int)<=(aJ b r.2.2.1).2.2.2.1/\(aJ b r.2.2.1).2.2.2.1<=999/\bk (bl t)=true:=by
 obtain⟨p1,p2⟩:=h.ab4 k
 obtain⟨c1,c2⟩:=zwk p1
 obtain⟨v1,v2,v3,v4,v5⟩:=(BP _ t ht).1 hv
 obtain⟨f1,f2,f3,f4,f5,f6⟩:=TK v1
 have sb:=Rd ob (h.hasB (by omega))
 obtain⟨g1,g2,g3,g4,g5,g6⟩:=TK sb
 have e:=f5 c2
 rw[c1,EF] at v4
 exact⟨by omega,by omega,by omega,by omega,v4⟩
theorem adR{r:aO}{a b:zf}(h:gu r a b)(ob:gW b)(hu:yH r a b=true){t:ByteArray}(ht:t.size<=1099511627776)(hv:bp (aJ a r.2.1) t=0)(hz:(zr r b t).2=0):
 (zr r b t).1.1=r.2.2.1/\zr (cA r) a (zr r b t).1.2.1=((r.2.1,t,()),0):=by
 rcases Ur hu with k|⟨k,hm⟩|⟨k,hb⟩
 ·rw[Qm k,Qm (show(cA r).1=1 from k)]
  exact⟨rfl,rfl⟩
 ·obtain⟨g1,g2,g3,g4,g5⟩:=alx h ob k hm ht hv
  have hp:(dm t (aJ b r.2.2.1).2.2.2.1).2=true:=by rw[PV g1 g3 g4 g5]
  rw[Qn k (h.hasB (by omega)),hp,Bool.not_true,zD]
  refine⟨rfl,?_⟩
  show zr (cA r) a (dm t (aJ b r.2.2.1).2.2.2.1).1=_
  rw[Qn (show(cA r).1=4 from k) (show bm a (cA r).2.2.1=true from h.K3 (by omega))]
  show(bif !(dm (dm t (aJ b r.2.2.1).2.2.2.1).1 (aJ a r.2.1).2.2.2.1).2 then(kW,(5:Int)) else((r.2.1,(dm (dm t (aJ b r.2.2.1).2.2.2.1).1 (aJ a r.2.1).2.2.2.1).1,()),0))=_
  rw[<-g2,ahQ g1 g3 g4 g5]
  rfl
 ·rw[Qo k] at hz⊢
  cases hp:(zq r.2.2.2.2.1 t).2 with
  |false=>rw[hp] at hz;exact absurd hz (by decide:¬(15:Int)=0)
  |true=>
   rw[Bool.not_true,zD]
   refine⟨rfl,?_⟩
   show zr (cA r) a (zq r.2.2.2.2.1 t).1=_
   rw[Qo (show(cA r).1=5 from k)]
   show(bif !(zq (dX r.2.2.2.2.1) (zq r.2.2.2.2.1 t).1).2 then(kW,(15:Int)) else((r.2.1,(zq (dX r.2.2.2.2.1) (zq r.2.2.2.2.1 t).1).1,()),0))=_
   rw[zoj hb hp]
   rfl
theorem adp{x y:aO}(h:jr x y=false)(hx:x.2.1≠0):x.2.1≠y.2.1:=by
 unfold jr at h
 rw[Bool.or_eq_false_iff] at h
 have:=h.1
 rw[zF hx] at this
 simpa using this
theorem ahk{m:Map}{a b:zf}(h:dY m a b){q:aO}(hq:q∈m.2.1)(hz:q.2.1≠0):cU m q.2.1=some q:=by
 unfold cU
 refine zid hq (by simp) fun y hy he=> ?_
 by_cases e:q=y
 ·exact e.symm
 ·exact absurd (of_decide_eq_true he).symm (adp (zrf h.ff q hq y hy e) hz)
theorem T6{m:Map}{a b:zf}(h:kH m a b=true):dY m a b/\AH m.1=true/\∀r∈m.2.1,yH r a b=true:=by
 unfold kH at h
 simp only[Bool.and_eq_true,decide_eq_true_eq,List.all_eq_true] at h
 exact⟨Rn.1 h.1,h.2.1,h.2.2⟩
theorem aek{m:Map}{a b:zf}(h:kH m a b=true):il m.2.1=[]:=by
 cases hc:il m.2.1 with
 |nil=>rfl
 |cons v l=>
  obtain⟨r,hr,k,_⟩:=HQ.1 (show v∈il m.2.1 by rw[hc];exact List.mem_cons_self)
  rcases Ur ((T6 h).2.2 r hr) with g|⟨g,_⟩|⟨g,_⟩<;>omega
theorem aht{m:Map}{a b:zf}(h:kH m a b=true):il (dO m).2.1=[]:=by
 cases hc:il (dO m).2.1 with
 |nil=>rfl
 |cons v l=>
  obtain⟨r,hr,k,_⟩:=HQ.1 (show v∈il (dO m).2.1 by rw[hc];exact List.mem_cons_self)
  obtain⟨q,hq,rfl⟩:=List.mem_map.1 (show r∈m.2.1.map cA from hr)
  have k:q.1=3:=k
  rcases Ur ((T6 h).2.2 q hq) with g|⟨g,_⟩|⟨g,_⟩<;>omega
section
variable {m:Map} {a b:zf} {x:bI} {ys:List bg}
theorem OW(hi:kH m a b=true)(hm:dz m)(hx:eC x)(hd:b6 m a b x ys){w:bg}(hw:w∈x.2.1){q:aO}(hq:cU m w.1=some q)(hz:(zr q b w.2.1).2=0):
 (zr q b w.2.1).1.1≠0/\cU (dO m) (zr q b w.2.1).1.1=some (cA q)/\zr (cA q) a (zr q b w.2.1).1.2.1=(w,0):=by
 obtain⟨g1,g2,g3⟩:=hd.iB
 obtain⟨i1,i2,i3⟩:=T6 hi
 obtain⟨qm,qf⟩:=Gg hq
 have r0:=zix.1 (i1.rules q qm)
 obtain⟨e1,e2⟩:=adR r0 i1.okB (i3 q qm) (hx.q9 w hw) (by rw[qf];exact(g1 w hw).2) hz
 have hk:q.1≠2:=by rcases Ur (i3 q qm) with g|⟨g,_⟩|⟨g,_⟩<;>omega
 have C5:=i1.Me qm hk
 rw[e1,e2,qf]
 exact⟨C5,ahk (Ot hi) (q:=cA q) (List.mem_map.2 ⟨q,qm,rfl⟩) C5,rfl⟩
theorem ak6(hi:kH m a b=true)(hm:dz m)(hx:eC x)(hd:b6 m a b x ys):mU (dO m) b a ((zq m.1 x.1).1,lB (ys++il m.2.1) 127 2,())=(x,hJ):=by
 obtain⟨g1,g2,g3⟩:=hd.iB
 obtain⟨i1,i2,i3⟩:=T6 hi
 have hc:=aek hi
 have cz:=hd.mem
 rw[hc] at cz
 have out:=hd.out hm hx
 rw[hc] at out⊢
 have there:∀v∈lB (ys++ []) 127 2,∃w∈x.2.1,cU (dO m) v.1≠none/\∀q',cU (dO m) v.1=some q'->zr q' a v.2.1=(w,0):=fun v hv=>by
  rcases(cz v).1 hv with hv|⟨hv,LL⟩
  ·cases hv
  ·obtain⟨w,hw,q,hf,h0,rfl⟩:=Ga hd.pw v hv
   obtain⟨b1,b2,b3⟩:=OW hi hm hx hd hw hf h0
   exact⟨w,hw,by rw[b2];exact nofun,fun q' hq'=>by rw[b2] at hq';cases hq';exact b3⟩
 have A0:=zoj i2 hd.head
 obtain⟨zs,LR⟩:∃zs,jE (dO m) a (lB (ys++ []) 127 2)= .inr zs:=QS.2 fun v hv=>by
  obtain⟨w,hw,n1,n2⟩:=there v hv
  cases hf:cU (dO m) v.1 with
  |none=>exact absurd hf n1
  |some q'=>exact⟨q',hf,by rw[n2 q' hf]⟩
 have oc:b6 (dO m) b a ((zq m.1 x.1).1,lB (ys++ []) 127 2,()) zs:=⟨Ot hi,out,by show(zq (dX m.1) (zq m.1 x.1).1).2=true;rw[A0],LR⟩
 rw[oc.eq]
 have hl:lB (zs++il (dO m).2.1) 127 2=x.2.1:=by
  refine ET oc.ris g2 fun w=> ?_
  rw[oc.mem,aht hi]
  constructor
  ·rintro(hw|⟨hw,hw0⟩)
   ·cases hw
   ·obtain⟨v,hv,q',hf,h0,rfl⟩:=Ga LR w hw
    obtain⟨u,hu,n1,n2⟩:=there v hv
    rw[n2 q' hf];exact hu
  ·intro hw
   right
   refine⟨?_,by have:=g3 w hw;omega⟩
   obtain⟨q,hf,h0,dv⟩:=zds hd.pw w hw
   obtain⟨b1,b2,b3⟩:=OW hi hm hx hd hw hf h0
   obtain⟨q',f1,f2,f3⟩:=zds LR (zr q b w.2.1).1 ((cz _).2 (.inr ⟨dv,b1⟩))
   rw[b2] at f1
   cases f1
   rw[b3] at f3
   exact f3
 rw[hl]
 show(((zq (dX m.1) (zq m.1 x.1).1).1,x.2.1,()),hJ)=_
 rw[A0]
end
end bj

namespace bj
open Go.IntKind renaming wrap->zW,i64->zI,u8->zU
open Go Go.Ref
theorem zhk(p:aV)(n:Int)(m:bI)(f:bL):(gX p n m f).1≠1/\(dS m.1=false->(gX p n m f).1≠2):=by
 unfold gX
 split
 ·rename_i hr
  split
  ·exact⟨by decide,fun _=>by decide⟩
  ·exact⟨show(2:Int)≠1 by decide,fun h=>by rw[hr] at h;cases h⟩
 ·exact⟨by decide,fun _=>by decide⟩
section
variable {p q:aV} {n:Int} (h:cu p q) (h0:oq p q n)
include h
theorem Qt{b s:ByteArray}(hb:b.size<=1099511627776)(ho:ej p q n b=(1,s)):∃m x,gV p.1 m/\hN m/\dE p.1 m=b/\mU p.2.1 p.1 q.1 m=(x,hJ)/\gV q.1 x/\hN x/\s=dE q.1 x/\(s.size:Int)<=n:=by
 unfold ej pn at ho
 split at ho
 ·have:=(zhk p n (dZ p.1 b).1 (dZ p.1 b).2).1
  rw[ho] at this;exact absurd rfl this
 rename_i hd
 have hd:(dZ p.1 b).2.1=0:=Classical.byContradiction hd
 obtain⟨d1,d2,d3,d4⟩:=ag6 (m:=(dZ p.1 b).1) (f:=(dZ p.1 b).2) hb rfl hd
 unfold po at ho
 split at ho
 ·have:=(zhk p n (dZ p.1 b).1 (mU p.2.1 p.1 q.1 (dZ p.1 b).1).2).1
  rw[ho] at this;exact absurd rfl this
 rename_i ht
 have ht:(mU p.2.1 p.1 q.1 (dZ p.1 b).1).2.1=0:=Classical.byContradiction ht
 split at ho
 ·have:=(zhk p n (dZ p.1 b).1 (5,129,())).1
  rw[ho] at this;exact absurd rfl this
 rename_i hn
 obtain⟨t1,t2⟩:=z154 h d3.ok ht
 have he:(mU p.2.1 p.1 q.1 (dZ p.1 b).1).2=hJ:=by
  rcases zb6 p.2.1 p.1 q.1 (dZ p.1 b).1 with⟨f,hf,e⟩|⟨ys,_,e⟩
  ·rw[e] at ht;exact absurd ht hf
  ·rw[e]
 injection ho with _ ho
 exact⟨_,_,d2,d3,d4,Prod.ext rfl he,t1,zwf t2 t1,ho.symm,by rw[<-ho];omega⟩
include h0
theorem apN{b s:ByteArray}(hb:b.size<=1099511627776)(ho:ej p q n b=(2,s)):∃x,gV p.1 x/\hN x/\dS x.1=false/\s=dE p.1 x/\(s.size:Int)<=n:=by
 have lf:=N4 p.1 b hb
 have Z9:∀(f:bL),gX p n (dZ p.1 b).1 f=(2,s)->∃x,gV p.1 x/\hN x/\dS x.1=false/\s=dE p.1 x/\(s.size:Int)<=n:=fun f hf=>by
  unfold gX at hf
  split at hf
  ·rename_i hr
   obtain⟨b1,b2,b3⟩:=N1 (OM h0.rp) h.sp h.pe lf f.1 hr
   split at hf
   ·cases hf
   ·rename_i hn
    injection hf with _ hf
    exact⟨_,b1,b2,b3,hf.symm,by rw[<-hf];omega⟩
  ·cases hf
 unfold ej pn at ho
 split at ho
 ·exact Z9 _ ho
 unfold po at ho
 split at ho
 ·exact Z9 _ ho
 split at ho
 ·exact Z9 _ ho
 ·cases ho
end
end bj

namespace bj
open Go.IntKind renaming wrap->zW,i64->zI,u8->zU
open Go Go.Ref
abbrev fk:=Int×Int×ByteArray×Int×Unit
abbrev Gw:=wu×(Option Fr×Option Fr)×Int
def De(i:Int)(x:aO)(s:List aO)(K:List aO->Option (List aO×aV×aV)):Option (List aO×aV×aV):=
 bif(decide (x.2.2.2.2.1.length*32<=140737488355328)) then(bif(decide ((s.length+(List.length ([(x.1,x.2.1,x.2.2.1,x.2.2.2.1,x.2.2.2.2.1,())]:List aO)))*64<=140737488355328)) then K (s++ [(x.1,x.2.1,x.2.2.1,x.2.2.2.1,x.2.2.2.2.1,())]) else none) else none
theorem PS(b1 b2:aV):∀(l:List aO) (i:Int) (s:List aO),(∀r∈l,fm r)->s.length+l.length<=1000000->bB De (fun s=>some (s,b1,b2)) l i s=some (s++l,b1,b2)
 | [],i,s,_,_=>by rw[List.append_nil];rfl
 |x::l,i,s,h,hl=>by
  have hp:=(h x (by simp)).ff.len
  simp only[List.length_cons] at hl
  rw[bB,De,zT (by omega),zC,zT (by simp only[List.length_cons,List.length_nil];omega),zC,PS b1 b2 l (i+1) _ (fun r hr=>h r (by simp [hr])) (by simp;omega)]
  rw[List.append_assoc];rfl
theorem QC(s:aV)(h:df s)(hm:dz s.2.1)(h2:s.1.2.2.1.length<=200):Jv s=some s:=by
 have he:=h.oV
 have hc:=h.gA
 have hl:=hm.len
 have ht:=hm.nT.len
 unfold Jv Y7
 rw[zT (by omega),zC,zT (by omega),zC,zT (by omega),zC,zT (by omega),zC]
 have:=cD ((0:Int),(0:Int),(0:Int),bs [],([]:List bq),()) s.2.1.2.1 (by rw[zh];omega) De (fun l=>some (l,(s.1,s.2.1,s.2.2.1,s.2.2.2.1,()),ig))
  (fun k i l=>St k l s.2.1.2.1 (s.2.1.2.1.length:Int) i (s.1,s.2.1,s.2.2.1,s.2.2.2.1,()) ig) (fun k i l=>rfl) []
 dsimp only
 refine(congrArg (fun o=>Option.bind o _) (this.trans (PS _ _ s.2.1.2.1 0 [] hm.rules (by simp;omega)))).trans ?_
 rw[zc,List.nil_append]
 unfold Y8
 rw[zT (by show s.2.2.1.length*8<=_;omega),zC,zT (by show s.2.2.2.1.length*24<=_;omega),zC]
def gw(c:wu)(n:Int)(x y:ByteArray)(d:Int):Gw:=(c,(some (dR n (bl x)),some (dR n (bl y))),d)
theorem aiD(p q:aV)(n:Int)(h:cu p q):yZ ([p,q],n,())=some (if(eS p q n).1=0 then .inr (0,gw ([p,q],n,()) n (bs []) (bs []) 0) else .inl 1):=by
 obtain⟨k,hk⟩:=IE
 unfold yZ Y4
 rw[ze6 p q n h,zc]
 by_cases h0:(eS p q n).1=0
 case neg=>rw[zF h0,if_neg h0];rfl
 rw[zT h0,if_pos h0,Bool.not_true,zD,hk]
 have hc:=s8.1 h0
 have hn:¬(n<1\/65535<n):=fun e=>by have:=hc.n1;have:=hc.n2;omega
 unfold G9 Iv
 simp only[sB,sC,yt,yu,BB,BC,gp,gq,Hs,Ht,qX,qY]
 rw[zT (by decide:(0:Int)<2),zC,QC p h.sp h.pm h.Df,zc,P9,zc,if_neg hn,Sum.elim_inr]
 dsimp only
 unfold G9 Iv
 simp only[sB,sC,yt,yu,BB,BC,gp,gq,Hs,Ht,qX,qY]
 rw[zT (by decide:(1:Int)<2),zC,QC q h.sq h.qm h.Dj,zc,P9,zc,if_neg hn,Sum.elim_inr]
 dsimp only
 unfold G9 Iv
 rw[zF (by decide:¬(2:Int)<2),zD]
 rfl
abbrev Ev:=Int×ByteArray×Unit
abbrev Item:=Int×Option ByteArray
def eX(b:ByteArray):ByteArray:=if b.size<1\/65535<b.size then bs [] else strOf [(b.size:Int)/256,(b.size:Int)% 256]++b
theorem aho(b:ByteArray)(h:b.size<=70000):∃e,Cf b=some (eX b,e):=by
 rw[akX b h]
 unfold eX
 by_cases hb:b.size<1\/65535<b.size
 ·rw[if_pos hb,if_pos hb];exact⟨_,rfl⟩
 ·rw[if_neg hb,if_neg hb];exact⟨_,rfl⟩
theorem ah1(b:ByteArray)(h:b.size<=70000):rH b=some (eX b):=acU b h
theorem zhl{n:Int}(hn:n<=65535)(p:aV)(m:bI)(f:bL):(gX p n m f).2.size<=65535:=by
 unfold gX
 split
 ·split
  ·exact Nat.zero_le _
  ·rename_i h
   show(dE p.1 (tf p m f.1)).size<=65535
   omega
 ·exact Nat.zero_le _
theorem Nl{n:Int}(hn:n<=65535)(p q:aV)(b:ByteArray):(ej p q n b).2.size<=65535:=by
 unfold ej pn
 split
 ·exact zhl hn _ _ _
 ·unfold po
  split
  ·exact zhl hn _ _ _
  ·split
   ·exact zhl hn _ _ _
   ·rename_i h
    show(dE q.1 _).size<=65535
    omega
theorem zis{p q:aV}{n:Int}(link:Int)(b:ByteArray):(dI p q n link b).2.size<=65535:=by
 unfold dI
 split
 ·exact Nat.zero_le _
 ·rename_i h
  have h0:=s8.1 (Decidable.not_not.1 h)
  split
  ·exact Nl h0.n2 _ _ _
  ·split
   ·exact Nl h0.n2 _ _ _
   ·exact Nat.zero_le _
def iJ(p q:aV)(n link d:Int)(b:ByteArray):fk×Int:=
 if(dI p q n link b).1=3 then((link,3,bs [],zW zI (d+1),()),zW zI (d+1))
 else if(dI p q n link b).1=1 then((zW zI (1-link),1,eX (dI p q n link b).2,d,()),d)
 else((link,(dI p q n link b).1,eX (dI p q n link b).2,d,()),d)
theorem aer(p q:aV)(n link d:Int)(b:ByteArray)(m:Option Fr×Option Fr)(h:cu p q)(hb:b.size<=1099511627776):
 Hk (([p,q],n,()),m,d) link b=some ((iJ p q n link d b).1,(([p,q],n,()),m,(iJ p q n link d b).2)):=by
 unfold Hk Y2 iJ
 rw[adL p q n link b h hb,zc]
 have hs:=zis (p:=p) (q:=q) (n:=n) link b
 obtain⟨e,hp⟩:=aho _ (show(dI p q n link b).2.size<=70000 by omega)
 generalize dI p q n link b=r at hs hp⊢
 by_cases h3:r.1=3
 ·rw[zT h3,if_pos h3,zC,h3]
 rw[zF h3,if_neg h3,zD]
 by_cases h1:r.1=1
 ·rw[zT h1,if_pos h1,zC,hp,zc,h1]
 ·rw[zF h1,if_neg h1,zD,hp,zc]
def kS(p q:aV)(n d:Int)(it:Item):fk×Int:=match it.2 with
 |some b=>iJ p q n it.1 d b
 |none=>((it.1,4,bs [],d,()),d)
def bO(p q:aV)(n:Int):Int->List Item->List fk×Int
 |d,[]=>([],d)
 |d,it::r=>((kS p q n d it).1::(bO p q n (kS p q n d it).2 r).1,(bO p q n (kS p q n d it).2 r).2)
theorem z9y(p q:aV)(n:Int):∀(a b:List Item) (d:Int),bO p q n d (a++b)=((bO p q n d a).1++(bO p q n (bO p q n d a).2 b).1,(bO p q n (bO p q n d a).2 b).2)
 | [],b,d=>rfl
 |it::a,b,d=>by
  rw[List.cons_append,bO,bO,z9y p q n a b]
  rfl
theorem QJ(p q:aV)(n:Int):∀(a:List Item) (d:Int),(bO p q n d a).1.length=a.length
 | [],d=>rfl
 |it::a,d=>by rw[bO,List.length_cons,List.length_cons,QJ p q n a]
def gT(n:Int)(a:List Int):List (Option ByteArray):=(aZ n a).2.2.map some++if(aZ n a).1=true then [none] else []
def eW(n:Int)(a b:List Int):List (Option ByteArray):=(gT n (a++b)).drop (gT n a).length
theorem ze4(n:Int)(a b:List Int):gT n (a++b)=gT n a++((b.foldl (aL n) ((aZ n a).1,(aZ n a).2.1,[])).2.2.map some++if decide ((aZ n (a++b)).1=true/\(aZ n a).1=false)=true then [none] else []):=by
 unfold gT
 have mE:=zb2 n a b
 cases hd:(aZ n a).1 with
 |true=>
  rw[hd,HS] at mE
  rw[HS,mE]
  simp
 |false=>
  rw[hd] at mE
  have e1:(aZ n (a++b)).2.2=(aZ n a).2.2++(b.foldl (aL n) (false,(aZ n a).2.1,[])).2.2:=by rw[mE]
  rw[e1]
  simp
theorem Xz(n:Int)(a b:List Int):eW n a b=(b.foldl (aL n) ((aZ n a).1,(aZ n a).2.1,[])).2.2.map some++if decide ((aZ n (a++b)).1=true/\(aZ n a).1=false)=true then [none] else []:=by
 unfold eW
 rw[ze4,List.drop_left]
theorem TO(n:Int)(a b:List Int):gT n (a++b)=gT n a++eW n a b:=by rw[Xz,<-ze4]
theorem adz(n:Int)(a b c:List Int):eW n a (b++c)=eW n a b++eW n (a++b) c:=by
 have h1:=TO n a (b++c)
 have h2:=TO n (a++b) c
 rw[<-List.append_assoc,h2,TO n a b,List.append_assoc] at h1
 exact(List.append_cancel_left h1).symm
theorem alk(n:Int)(a:List Int):eW n a []=[]:=by unfold eW;rw[List.append_nil,List.drop_length]
theorem Ox(n:Int)(a b:List Int):(eW n a b).length<=b.length+1:=by
 rw[Xz]
 have:=(Up n b ((aZ n a).1,(aZ n a).2.1,[])).2
 rw[List.length_append,List.length_map]
 split
 ·simp at this⊢;omega
 ·simp at this⊢;omega
def uG(k:Int)(i:Int)(x:ByteArray)(s:List fk×Gw)(K:List fk×Gw->Option (List fk×Bool×Gw×Ev)):Option (List fk×Bool×Gw×Ev):=
 (Hk s.2 k x).bind fun r4=>(bif(decide ((s.1.length+(List.length ([r4.1]:List fk)))*40<=140737488355328)) then K (s.1++([r4.1]:List fk),r4.2) else none)
theorem N8(p q:aV)(n k:Int)(h:cu p q)(m:Option Fr×Option Fr)(b:Bool)(e:Ev):∀(l:List ByteArray) (i:Int) (s:List fk) (d:Int),(∀x∈l,x.size<=1099511627776)->s.length+l.length<=3000000000000->
 bB (uG k) (fun s=>some (s.1,b,s.2,e)) l i (s,(([p,q],n,()),m,d))=some (s++(bO p q n d (l.map fun x=>(k,some x))).1,b,(([p,q],n,()),m,(bO p q n d (l.map fun x=>(k,some x))).2),e)
 | [],i,s,d,_,_=>by rw[List.map_nil,bO,List.append_nil];rfl
 |x::l,i,s,d,hb,hl=>by
  simp only[List.length_cons] at hl
  rw[bB,uG,aer p q n k d x m h (hb x (by simp)),zc,zT (by simp only[List.length_cons,List.length_nil];omega),zC,
   N8 p q n k h m b e l (i+1) _ _ (fun y hy=>hb y (by simp [hy])) (by simp;omega),List.map_cons,bO,List.append_assoc]
  rfl
theorem LV(k:Int):Cg k=some (decide (k=0\/k=1)):=by
 unfold Cg Y5
 by_cases h:k=0
 ·simp [h]
 ·simp [h]
def eg(n:Int)(xy:ByteArray×ByteArray)(e:Ev):List Item×(ByteArray×ByteArray):=
 if e.1=0 then((eW n (bl xy.1) (bl e.2.1)).map fun i=>((0:Int),i),(xy.1++e.2.1,xy.2))
 else if e.1=1 then((eW n (bl xy.2) (bl e.2.1)).map fun i=>((1:Int),i),(xy.1,xy.2++e.2.1))
 else([],xy)
theorem aev(m:Int)(l:List Int):∀(st:Bool×List Int×List ByteArray),∀x∈(l.foldl (aL m) st).2.2,x∈st.2.2\/x.size<=st.2.1.length+l.length:=by
 induction l with
 |nil=>intro st x hx;exact .inl hx
 |cons c r ih=>
  intro st x hx
  have h:(aL m st c).2.1.length<=st.2.1.length+1/\∀y∈(aL m st c).2.2,y∈st.2.2\/y.size<=st.2.1.length+1:=by
   unfold aL
   split
   ·exact⟨by omega,fun y hy=> .inl hy⟩
   ·split
    ·exact⟨by simp,fun y hy=> .inl hy⟩
    ·split
     ·refine⟨by simp,fun y hy=> ?_⟩
      rcases List.mem_append.1 hy with hy|hy
      ·exact .inl hy
      ·right
       have:y=strOf ((st.2.1++ [c]).drop 2):=by simpa using hy
       rw[this,n3,List.length_drop,List.length_append,List.length_cons,List.length_nil]
       omega
     ·exact⟨by simp,fun y hy=> .inl hy⟩
  rcases ih (aL m st c) x hx with h1|h1
  ·rcases h.2 x h1 with h2|h2
   ·exact .inl h2
   ·right;simp;omega
  ·right;have:=h.1;simp;omega
theorem MU(p q:aV)(n k:Int)(h:cu p q)(a c:ByteArray)(m:Option Fr×Option Fr)(d:Int)(hs:a.size+c.size<=1000000000000)(F:List fk×Bool×Gw×Ev->Option (List fk×Gw)):
 ((Ce (dR n (bl a)) c).bind fun r3=>(Iu af ([]:List fk) r3.2.1 r3.1 ((List.length r3.1):Int) (0:Int) (([p,q],n,()),((gj k.toNat (some r3.2.2) m),d)) (k,c,())).bind F)=
   F ((bO p q n d (((bl c).foldl (aL n) ((aZ n (bl a)).1,(aZ n (bl a)).2.1,[])).2.2.map fun x=>(k,some x))).1,decide ((aZ n (bl a++bl c)).1=true/\(aZ n (bl a)).1=false),(([p,q],n,()),gj k.toNat (some (dR n (bl (a++c)))) m,(bO p q n d (((bl c).foldl (aL n) ((aZ n (bl a)).1,(aZ n (bl a)).2.1,[])).2.2.map fun x=>(k,some x))).2),(k,c,())):=by
 have hla:=zg a
 have hlc:=zg c
 rw[acL n (bl a) c (fun x hx=>j8 hx) (by omega),zc]
 dsimp only
 generalize hl:((bl c).foldl (aL n) ((aZ n (bl a)).1,(aZ n (bl a)).2.1,[])).2.2=l
 have hlen:l.length<=c.size:=by
  have:=(Up n (bl c) ((aZ n (bl a)).1,(aZ n (bl a)).2.1,[])).2
  rw[hl] at this
  simp only[List.length_nil] at this;omega
 have c9:∀x∈l,x.size<=1099511627776:=fun x hx=>by
  rw[<-hl] at hx
  have h1:=(zrk n (bl a)).1
  rcases aev n (bl c) _ x hx with h2|h2
  ·cases h2
  ·simp only at h2;omega
 have:=cD (bs []) l (by rw[zh];omega) (uG k) (fun s=>some (s.1,decide ((aZ n (bl a++bl c)).1=true/\(aZ n (bl a)).1=false),s.2,(k,c,())))
  (fun j i s=>Iu j s.1 (decide ((aZ n (bl a++bl c)).1=true/\(aZ n (bl a)).1=false)) l (l.length:Int) i s.2 (k,c,())) (fun j i s=>rfl) ([],(([p,q],n,()),(gj k.toNat (some (dR n (bl a++bl c))) m,d)))
 refine(congrArg (fun o=>Option.bind o F) (this.trans (N8 p q n k h _ _ _ l 0 [] d c9 (by simp;omega)))).trans ?_
 rw[zc,List.nil_append,oi]
theorem aeR(p q:aV)(n d:Int)(h:cu p q)(x y:ByteArray)(e:Ev)(hs:x.size+y.size+e.2.1.size<=1000000000000):
 Hj (gw ([p,q],n,()) n x y d) e=some ((bO p q n d (eg n (x,y) e).1).1,gw ([p,q],n,()) n (eg n (x,y) e).2.1 (eg n (x,y) e).2.2 (bO p q n d (eg n (x,y) e).1).2):=by
 obtain⟨k,c,u⟩:=e
 cases u
 dsimp only at hs
 unfold Hj YZ
 rw[LV,zc]
 have fin:∀(a:ByteArray) (m:Option Fr×Option Fr),a.size+c.size<=1000000000000->k=0\/k=1->
  Sr (bO p q n d (((bl c).foldl (aL n) ((aZ n (bl a)).1,(aZ n (bl a)).2.1,[])).2.2.map fun x=>(k,some x))).1 (decide ((aZ n (bl a++bl c)).1=true/\(aZ n (bl a)).1=false)) (([p,q],n,()),m,(bO p q n d (((bl c).foldl (aL n) ((aZ n (bl a)).1,(aZ n (bl a)).2.1,[])).2.2.map fun x=>(k,some x))).2) (k,c,()) (fun a0 a1=>some (a0,a1))=
  some ((bO p q n d ((eW n (bl a) (bl c)).map fun i=>(k,i))).1,(([p,q],n,()),m,(bO p q n d ((eW n (bl a) (bl c)).map fun i=>(k,i))).2)):=fun a m hs hk=>by
  have hlc:=zg c
  have hlen:=(Up n (bl c) ((aZ n (bl a)).1,(aZ n (bl a)).2.1,[])).2
  rw[Xz,List.map_append,List.map_map,z9y]
  unfold Sr
  generalize hl:((bl c).foldl (aL n) ((aZ n (bl a)).1,(aZ n (bl a)).2.1,[])).2.2=l at hlen⊢
  simp only[List.length_nil] at hlen
  have e1:((fun i=>(k,i))∘some:ByteArray->Item)=fun x=>(k,some x):=rfl
  rw[e1]
  cases decide ((aZ n (bl a++bl c)).1=true/\(aZ n (bl a)).1=false) with
  |false=>
   rw[zD,if_neg (by simp)]
   simp [bO]
  |true=>
   rw[zC,if_pos rfl,QJ,List.length_map,zT (by simp only[List.length_cons,List.length_nil];omega),zC]
   simp [bO,kS]
 by_cases h0:k=0
 ·subst h0
  rw[zT (.inl rfl),Bool.not_true,zD]
  dsimp only
  rw[sB]
  show(getM (0:Int).toNat (some (dR n (bl x)),some (dR n (bl y)))).bind _=_
  rw[show getM (0:Int).toNat (some (dR n (bl x)),some (dR n (bl y)))=some (dR n (bl x)) from rfl,zc]
  refine(MU p q n 0 h x c (some (dR n (bl x)),some (dR n (bl y))) d (by omega) _).trans ?_
  dsimp only
  rw[fin x _ (by omega) (.inl rfl)]
  rfl
 by_cases h1:k=1
 ·subst h1
  rw[zT (.inr rfl),Bool.not_true,zD]
  dsimp only
  rw[sC]
  show(getM (1:Int).toNat (some (dR n (bl x)),some (dR n (bl y)))).bind _=_
  rw[show getM (1:Int).toNat (some (dR n (bl x)),some (dR n (bl y)))=some (dR n (bl y)) from rfl,zc]
  refine(MU p q n 1 h y c (some (dR n (bl x)),some (dR n (bl y))) d (by omega) _).trans ?_
  dsimp only
  rw[fin y _ (by omega) (.inr rfl)]
  rfl
 ·rw[zF (fun e=>e.elim h0 h1),Bool.not_false,zC]
  unfold eg
  rw[if_neg h0,if_neg h1]
  rfl
def rA(l:List Ev):Nat:=(l.map fun e=>e.2.1.size).sum
theorem zb3(e:Ev)(l:List Ev):rA (e::l)=e.2.1.size+rA l:=by simp [rA]
theorem acr(a b:List Ev):rA (a++b)=rA a+rA b:=by simp [rA]
theorem ahH(n:Int)(x y:ByteArray)(e:Ev):(eg n (x,y) e).2.1.size+(eg n (x,y) e).2.2.size<=x.size+y.size+e.2.1.size/\(eg n (x,y) e).1.length<=e.2.1.size+1:=by
 unfold eg
 split
 ·have:=Ox n (bl x) (bl e.2.1)
  rw[zg] at this
  exact⟨by simp [ByteArray.size_append];omega,by simpa using this⟩
 ·split
  ·have:=Ox n (bl y) (bl e.2.1)
   rw[zg] at this
   exact⟨by simp [ByteArray.size_append];omega,by simpa using this⟩
  ·exact⟨by simp,by simp⟩
def ct(n:Int):ByteArray×ByteArray->List Ev->List Item×(ByteArray×ByteArray)
 |xy,[]=>([],xy)
 |xy,e::r=>((eg n xy e).1++(ct n (eg n xy e).2 r).1,(ct n (eg n xy e).2 r).2)
theorem HM(n:Int):∀(a b:List Ev) (xy:ByteArray×ByteArray),ct n xy (a++b)=((ct n xy a).1++(ct n (ct n xy a).2 b).1,(ct n (ct n xy a).2 b).2)
 | [],b,xy=>rfl
 |e::a,b,xy=>by rw[List.cons_append,ct,ct,HM n a b,List.append_assoc]
def Dn(i:Int)(e:Ev)(s:List fk×Gw)(K:List fk×Gw->Option (List fk×Gw)):Option (List fk×Gw):=
 (Hj s.2 e).bind fun r1=>(bif(decide ((s.1.length+r1.1.length)*40<=140737488355328)) then K (s.1++r1.1,r1.2) else none)
section
variable (p q:aV) (n:Int) (h:cu p q)
include h
theorem PX:∀(l:List Ev) (i:Int) (s:List fk) (x y:ByteArray) (d:Int),x.size+y.size+rA l<=1000000000000->s.length+l.length+rA l<=3000000000000->
 bB Dn (fun s=>some s) l i (s,gw ([p,q],n,()) n x y d)=some (s++(bO p q n d (ct n (x,y) l).1).1,gw ([p,q],n,()) n (ct n (x,y) l).2.1 (ct n (x,y) l).2.2 (bO p q n d (ct n (x,y) l).1).2)
 | [],i,s,x,y,d,_,_=>by rw[ct,bO,List.append_nil];rfl
 |e::l,i,s,x,y,d,h1,h2=>by
  rw[zb3] at h1 h2
  rw[List.length_cons] at h2
  have hz:=ahH n x y e
  rw[bB,Dn,aeR p q n d h x y e (by omega),zc,QJ,zT (by dsimp only;omega),zC,
   PX l (i+1) _ _ _ _ (by omega) (by dsimp only;rw[List.length_append,QJ];omega),ct,z9y,List.append_assoc]
theorem NQ(x y:ByteArray)(d:Int)(l:List Ev)(hs:x.size+y.size+rA l<=1000000000000)(hl:l.length<=1000000000000):
 yY (gw ([p,q],n,()) n x y d) l=some ((bO p q n d (ct n (x,y) l).1).1,gw ([p,q],n,()) n (ct n (x,y) l).2.1 (ct n (x,y) l).2.2 (bO p q n d (ct n (x,y) l).1).2):=by
 unfold yY Y1
 dsimp only
 have:=cD ((0:Int),bs [],()) l (by rw[zh];omega) Dn (fun s=>some s) (fun k i s=>Ss k s.1 l (l.length:Int) i s.2) (fun k i s=>rfl) ([],gw ([p,q],n,()) n x y d)
 refine(congrArg (fun o=>Option.bind o _) (this.trans (PX p q n h l 0 [] x y d hs (by simp;omega)))).trans ?_
 rw[zc,List.nil_append]
 rfl
end
theorem anA:Hl=some true:=by kernel_rfl
theorem PK(p q:aV)(n:Int){g b:Bool}(hg:rG ([p,q],n,())=some g)(fO:g=false->cu p q){l:List Ev}{most:Int}(hb:rI l most=some b):
 Ch ([p,q],n,()) l most=some (bif g||b|| !decide ((eS p q n).1=0) then .inl () else .inr (true,gw ([p,q],n,()) n (bs []) (bs []) 0)):=by
 unfold Ch Zd
 rw[hg,zc]
 cases g with
 |true=>rfl
 |false=>
  have h:=fO rfl
  rw[zD,hb,zc]
  cases b with
  |true=>rfl
  |false=>
   rw[zD,zvb p q n h,zc]
   by_cases h0:(eS p q n).1=0
   case neg=>rw[zF h0];rfl
   rw[zT h0,Bool.not_true,zD,aeP p q n h,zc,aiD p q n h,zc,if_pos h0]
   rfl
end bj

namespace bj
open Go.IntKind renaming wrap->zW,i64->zI,u8->zU
open Go Go.Ref
section
variable (p q:aV) (n:Int) (h:cu p q) (hc:(eS p q n).1=0)
include h hc
omit h hc in
end
end bj

namespace bj
open Go.IntKind renaming wrap->zW,i64->zI,u8->zU
open Go Go.Ref
theorem zox:rI [] 0=some false:=by
 obtain⟨k,hk⟩:=IE
 unfold rI VA
 rw[hk]
 rfl
section
variable (p q:aV) (n:Int) (h:cu p q) (hc:(eS p q n).1=0)
include h hc
end
end bj

namespace bj
open Go.IntKind renaming wrap->zW,i64->zI,u8->zU
open Go Go.Ref
theorem ael(n:Int):gT n []=[]:=by simp [gT,aZ]
def my(l:List Ev):List Int:=(l.map fun e=>bl e.2.1).flatten
theorem NZ(e:Ev)(l:List Ev):my (e::l)=bl e.2.1++my l:=by simp [my]
theorem adU(a b:List Ev):my (a++b)=my a++my b:=by simp [my]
theorem zvh(l:List Ev):(my l).length=rA l:=by
 induction l with
 |nil=>rfl
 |cons e l ih=>rw[NZ,zb3,List.length_append,zg,ih]
def oh(k:Int)(xy:ByteArray×ByteArray):ByteArray:=if k=0 then xy.1 else xy.2
theorem Xv(n k:Int)(hk:k=0\/k=1):∀(l:List Ev) (xy:ByteArray×ByteArray),(∀e∈l,e.1=k)->
 (ct n xy l).1=(eW n (bl (oh k xy)) (my l)).map (fun i=>(k,i))/\bl (oh k (ct n xy l).2)=bl (oh k xy)++my l/\oh (1-k) (ct n xy l).2=oh (1-k) xy
 | [],xy,_=>by rw[ct];exact⟨by rw[show my []=[] from rfl,alk];rfl,by rw[show my []=[] from rfl,List.append_nil],rfl⟩
 |e::l,xy,he=>by
  obtain⟨h1,h2,h3⟩:=Xv n k hk l (eg n xy e).2 (fun x hx=>he x (by simp [hx]))
  have e1:=he e (by simp)
  have hn:(eg n xy e).1=(eW n (bl (oh k xy)) (bl e.2.1)).map (fun i=>(k,i))/\bl (oh k (eg n xy e).2)=bl (oh k xy)++bl e.2.1/\oh (1-k) (eg n xy e).2=oh (1-k) xy:=by
   unfold eg oh
   rcases hk with rfl|rfl
   ·rw[if_pos e1];simp [oi]
   ·rw[if_neg (by omega),if_pos e1];simp [oi]
  rw[ct,h1,h2,h3,hn.1,hn.2.1,hn.2.2,NZ,adz,List.map_append,List.append_assoc]
  exact⟨rfl,rfl,rfl⟩
def Dq(k:Int)(a:ByteArray)(l:List Ev):ByteArray:=l.foldl (fun a e=>if e.1=k then a++e.2.1 else a) a
theorem M8(n:Int):∀(l:List Ev) (x y:ByteArray),(ct n (x,y) l).2=(Dq 0 x l,Dq 1 y l)
 | [],x,y=>rfl
 |e::l,x,y=>by
  rw[ct]
  dsimp only
  have hn:(eg n (x,y) e).2=(if e.1=0 then x++e.2.1 else x,if e.1=1 then y++e.2.1 else y):=by
   unfold eg
   by_cases h0:e.1=0
   ·rw[if_pos h0,if_pos h0,if_neg (by omega)]
   ·rw[if_neg h0,if_neg h0]
    by_cases h1:e.1=1
    ·rw[if_pos h1,if_pos h1]
    ·rw[if_neg h1,if_neg h1]
  rw[hn,M8 n l]
  rfl
theorem zqo(p:aV)(n:Int)(m:bI)(f:bL):(gX p n m f).1=2\/((gX p n m f).1=3/\(gX p n m f).2=bs []):=by
 unfold gX
 split
 ·split
  ·exact .inr ⟨rfl,rfl⟩
  ·exact .inl rfl
 ·exact .inr ⟨rfl,rfl⟩
theorem OB{p q:aV}{n:Int}(h:cu p q)(h0:oq p q n)(b:ByteArray)(hb:b.size<=1099511627776):
 ((ej p q n b).1=3/\(ej p q n b).2=bs [])\/(((ej p q n b).1=1\/(ej p q n b).1=2)/\1<=(ej p q n b).2.size):=by
 have hk:(ej p q n b).1=1\/(ej p q n b).1=2\/((ej p q n b).1=3/\(ej p q n b).2=bs []):=by
  unfold ej pn
  split
  ·exact .inr (zqo p n _ _)
  ·unfold po
   split
   ·exact .inr (zqo p n _ _)
   ·split
    ·exact .inr (zqo p n _ _)
    ·exact .inl rfl
 rcases hk with h1|h2|h3
 ·obtain⟨m,x,_,_,_,_,x1,_,x3,_⟩:=Qt h (b:=b) (s:=(ej p q n b).2) hb (Prod.ext h1 rfl)
  have:=zr8 x1
  exact .inr ⟨.inl h1,by rw[x3];omega⟩
 ·obtain⟨x,x1,_,_,x3,_⟩:=apN h h0 (b:=b) (s:=(ej p q n b).2) hb (Prod.ext h2 rfl)
  have:=zr8 x1
  exact .inr ⟨.inr h2,by rw[x3];omega⟩
 ·exact .inl h3
theorem OC{p q:aV}{n:Int}(h:cu p q)(hc:(eS p q n).1=0){k:Int}(hk:k=0\/k=1)(b:ByteArray)(hb:b.size<=1099511627776):
 ((dI p q n k b).1=3/\(dI p q n k b).2=bs [])\/(((dI p q n k b).1=1\/(dI p q n k b).1=2)/\1<=(dI p q n k b).2.size):=by
 unfold dI
 rw[if_neg (fun e=>e hc)]
 rcases hk with rfl|rfl
 ·rw[if_pos rfl];exact OB h (s8.1 hc) b hb
 ·rw[if_neg (by decide),if_pos rfl];exact OB h.symm (s8.1 hc).symm b hb
theorem Ns{b:ByteArray}(h1:1<=b.size)(h2:b.size<=65535):(eX b).size=2+b.size:=by
 unfold eX
 rw[if_neg (by omega),ByteArray.size_append,n3]
 rfl
theorem alz{p q:aV}{n:Int}(h:cu p q)(hc:(eS p q n).1=0){k:Int}(hk:k=0\/k=1)(d:Int)(b:ByteArray)(hb:b.size<=1099511627776):
 iJ p q n k d b=((k,3,bs [],zW zI (d+1),()),zW zI (d+1))\/∃lk kind s,iJ p q n k d b=((lk,kind,s,d,()),d)/\(kind=1\/kind=2)/\3<=s.size:=by
 have hs:=zis (p:=p) (q:=q) (n:=n) k b
 unfold iJ
 rcases OC h hc hk b hb with⟨h3,_⟩|⟨h1,h4⟩
 ·rw[if_pos h3];exact .inl rfl
 ·right
  have hp:=Ns h4 hs
  by_cases e1:(dI p q n k b).1=1
  ·rw[if_neg (by omega),if_pos e1];exact⟨_,_,_,rfl,.inl rfl,by omega⟩
  ·have e2:(dI p q n k b).1=2:=by omega
   rw[if_neg (by omega),if_neg e1,e2];exact⟨_,_,_,rfl,.inr rfl,by omega⟩
theorem zil(n:Int)(S:List Int){a b:Nat}(h:a<=b):gT n (S.take b)=gT n (S.take a)++eW n (S.take a) ((S.take b).drop a):=by
 rw[<-TO]
 congr 1
 have:S.take a=(S.take b).take a:=by rw[List.take_take,Nat.min_eq_left h]
 rw[this,List.take_append_drop]
theorem aem(n:Int)(S:List Int){a b:Nat}(h:a<=b):(gT n (S.take a)).length<=(gT n (S.take b)).length:=by
 rw[zil n S h,List.length_append];omega
theorem alm(n:Int)(S:List Int){f f' c c':Nat}(h1:gT n (S.take f)=gT n (S.take c))(h2:gT n (S.take f')=gT n (S.take c'))(hf:f<=f')(hc:c<=c'):
 eW n (S.take f) ((S.take f').drop f)=eW n (S.take c) ((S.take c').drop c):=by
 rw[zil n S hf,zil n S hc,h1] at h2
 exact List.append_cancel_left h2
section
variable (p q:aV) (n:Int) (h:cu p q) (hc:(eS p q n).1=0)
include h hc
end
end bj

namespace bj
open Go.IntKind renaming wrap->zW,i64->zI,u8->zU
open Go Go.Ref
def jC(k:Int)(l:List Ev):List Int:=my (l.filter fun e=>decide (e.1=k))
theorem TS(k:Int)(a b:List Ev):jC k (a++b)=jC k a++jC k b:=by unfold jC;rw[List.filter_append,adU]
theorem P1(k:Int)(e:Ev):jC k [e]=if e.1=k then bl e.2.1 else []:=by
 unfold jC
 by_cases h:e.1=k
 ·rw[if_pos h,List.filter_cons_of_pos (by simpa using h)];simp [my]
 ·rw[if_neg h,List.filter_cons_of_neg (by simpa using h)];simp [my]
theorem Uw(k:Int)(l:List Ev){j:Nat}(h:j<l.length):jC k (l.take (j+1))=jC k (l.take j)++if l[j].1=k then bl l[j].2.1 else []:=by
 rw[<-List.take_append_getElem h,TS,P1]
theorem F6(k:Int):∀(l:List Ev) (a:ByteArray),bl (Dq k a l)=bl a++jC k l
 | [],a=>by rw[show jC k []=[] from rfl,List.append_nil];rfl
 |e::l,a=>by
  rw[show Dq k a (e::l)=Dq k (if e.1=k then a++e.2.1 else a) l from rfl,F6 k l,show e::l=[e]++l from rfl,TS,P1]
  by_cases h:e.1=k
  ·rw[if_pos h,if_pos h,oi,List.append_assoc]
  ·rw[if_neg h,if_neg h,List.nil_append]
theorem P2(k:Int)(l:List Ev)(j:Nat):(jC k l).take (jC k (l.take j)).length=jC k (l.take j):=by
 have:jC k l=jC k (l.take j)++jC k (l.drop j):=by rw[<-TS,List.take_append_drop]
 rw[this,List.take_left']
 rfl
theorem apP(k:Int)(l:List Ev)(j:Nat):(jC k (l.take j)).length<=(jC k l).length:=by
 have:jC k l=jC k (l.take j)++jC k (l.drop j):=by rw[<-TS,List.take_append_drop]
 rw[this,List.length_append];omega
abbrev BD:ByteArray×ByteArray:=(bs [],bs [])
structure mh(n:Int)(l:List Ev)(k:Int)(S So:List Int)(j:Nat)(out:List Ev)(c co t tt f fo:Nat):Prop where
 its:(ct n BD out).1=(ct n BD (l.take j)).1
 b:bl (oh k (ct n BD out).2)=S.take f
 bo:bl (oh (1-k) (ct n BD out).2)=So.take fo
 i:gT n (S.take f)=gT n (S.take c)
 io:gT n (So.take fo)=gT n (So.take co)
 nn:t=(gT n (S.take f)).length
 nno:tt=(gT n (So.take fo)).length
 g:f<=c
 go:fo<=co
 d:c=(jC k (l.take j)).length
 dd:co=(jC (1-k) (l.take j)).length
 e:S=jC k l
 eo:So=jC (1-k) l
 len:out.length=t+tt
 siz:rA out=f+fo
theorem mh.swap{n:Int}{l:List Ev}{k:Int}{S So:List Int}{j:Nat}{out:List Ev}{c co t tt f fo:Nat}(h:mh n l k S So j out c co t tt f fo):mh n l (1-k) So S j out co c tt t fo f:=by
 have e:1-(1-k)=k:=by omega
 exact⟨h.its,h.bo,by rw[e];exact h.b,h.io,h.i,h.nno,h.nn,h.go,h.g,h.dd,by rw[e];exact h.d,h.eo,by rw[e];exact h.e,by rw[h.len];omega,by rw[h.siz];omega⟩
theorem ah6(n k:Int)(hk:k=0\/k=1)(l:List Ev):bl (oh k (ct n BD l).2)=jC k l:=by
 rw[M8]
 unfold oh
 rcases hk with rfl|rfl
 ·rw[if_pos rfl]
  show bl (Dq 0 (bs []) l)=_
  rw[F6];rfl
 ·rw[if_neg (by decide)]
  show bl (Dq 1 (bs []) l)=_
  rw[F6];rfl
theorem alj(n k:Int)(hk:k=0\/k=1)(xy:ByteArray×ByteArray)(e:Ev)(he:e.1=k):(eg n xy e).1=(eW n (bl (oh k xy)) (bl e.2.1)).map fun i=>(k,i):=by
 have:=(Xv n k hk [e] xy (fun x hx=>by simp at hx;rw[hx];exact he)).1
 rw[ct,ct] at this
 simpa [my] using this
theorem mh.step{n:Int}{l:List Ev}{k:Int}(hk:k=0\/k=1){S So:List Int}{j:Nat}{out:List Ev}{c co t tt f fo:Nat}(h:mh n l k S So j out c co t tt f fo)(hj:j<l.length)(he:l[j].1=k)
 {new:List Ev} {c' t' f':Nat} (hc:c'=c+l[j].2.1.size) (hn:∀e∈new,e.1=k) (hb:my new=(S.take f').drop f) (h1:f<=f') (h2:f'<=c') (hi:gT n (S.take f')=gT n (S.take c')) (ht:t'=(gT n (S.take f')).length) (hl:new.length=t'-t):
 mh n l k S So (j+1) (out++new) c' co t' tt f' fo:=by
 have hs:=Uw k l hj
 rw[if_pos he] at hs
 have Hu:c'=(jC k (l.take (j+1))).length:=by rw[hs,List.length_append,<-h.d,zg,hc]
 have hle:=apP k l (j+1)
 rw[<-Hu,<-h.e] at hle
 have hp:=P2 k l (j+1)
 have hp0:=P2 k l j
 rw[<-Hu,<-h.e] at hp
 rw[<-h.d,<-h.e] at hp0
 have aah:c<=c':=by omega
 have hch:(S.take c').drop c=bl l[j].2.1:=by
  rw[hp,hs,h.d,List.drop_left']
  rfl
 obtain⟨o1,o2,o3⟩:=Xv n k hk new (ct n BD out).2 hn
 have htt:t<=t':=by
  rw[h.nn,ht];exact aem n S h1
 have gI:=Uw (1-k) l hj
 rw[if_neg (by omega),List.append_nil] at gI
 refine⟨?_,?_,?_,hi,h.io,ht,h.nno,h2,h.go,Hu,by rw[gI];exact h.dd,h.e,h.eo,by rw[List.length_append,h.len,hl];omega,?_⟩
 ·rw[HM]
  dsimp only
  rw[o1,h.b,hb,alm n S h.i hi h1 aah,<-List.take_append_getElem hj,HM,h.its]
  dsimp only
  rw[ct,ct,alj n k hk _ _ he,ah6 n k hk,hch,hp0,List.append_nil]
 ·rw[HM]
  dsimp only
  rw[o2,h.b,hb]
  have:S.take f=(S.take f').take f:=by rw[List.take_take,Nat.min_eq_left h1]
  rw[this,List.take_append_drop]
 ·rw[HM]
  dsimp only
  rw[o3,h.bo]
 ·rw[acr,h.siz,<-zvh new,hb,List.length_drop,List.length_take,Nat.min_eq_left (by omega)]
  omega
theorem mh.none{n:Int}{l:List Ev}{S So:List Int}{j:Nat}{out:List Ev}{c co t tt f fo:Nat}(h:mh n l 0 S So j out c co t tt f fo)(hj:j<l.length)(h0:¬l[j].1=0)(h1:¬l[j].1=1):
 mh n l 0 S So (j+1) out c co t tt f fo:=by
 have hs:=Uw 0 l hj
 have gI:=Uw (1-0) l hj
 rw[if_neg h0,List.append_nil] at hs
 rw[if_neg (by omega),List.append_nil] at gI
 refine⟨?_,h.b,h.bo,h.i,h.io,h.nn,h.nno,h.g,h.go,by rw[hs];exact h.d,by rw[gI];exact h.dd,h.e,h.eo,h.len,h.siz⟩
 have hn:∀xy,eg n xy l[j]=([],xy):=fun xy=>by unfold eg;rw[if_neg h0,if_neg h1]
 rw[<-List.take_append_getElem hj,HM,h.its]
 dsimp only
 rw[ct,ct,hn]
 simp
def two{α:Type}(k:Int)(a b:α):List α:=if k=0 then [a,b] else [b,a]
def Tt(p:bq):Bool:=Nat.ble p.1.size 1200&&Nat.ble p.2.1.size 1200
def okR(r:aO):Bool:=Nat.ble r.2.2.2.1.size 1200&&(Nat.ble r.2.2.2.2.1.length 300&&r.2.2.2.2.1.all Tt)
def HH(s:aV):Bool:=Nat.ble s.1.2.2.1.length 200&&(Nat.ble s.2.2.1.length 300&&(Nat.ble s.2.2.2.1.length 300&&(s.2.2.2.1.all (fun c=>Nat.ble c.2.1.size 1200)&&(Nat.ble s.2.1.1.length 300&&(s.2.1.1.all Tt&&(Nat.ble s.2.1.2.1.length 300&&s.2.1.2.1.all okR))))))
theorem QA{l:List bq}(h:l.all Tt=true):∀p∈l,p.1.size<=1099511627776/\p.2.1.size<=1099511627776:=fun p hp=>by
 have:=List.all_eq_true.1 h p hp
 unfold Tt at this
 simp only[Bool.and_eq_true,Nat.ble_eq] at this
 omega
theorem QB{s:aV}(h:HH s=true):df s/\dz s.2.1/\s.1.2.2.1.length<=200/\s.2.2.1.length<=300/\s.2.1.2.1.length<=300/\∀c∈s.2.2.2.1,c.2.1.size<=1200:=by
 unfold HH at h
 simp only[Bool.and_eq_true,Nat.ble_eq] at h
 obtain⟨h1,h2,h3,h4,h5,h6,h7,h8⟩:=h
 have ht:∀c∈s.2.2.2.1,c.2.1.size<=1200:=fun c hc=>Nat.le_of_ble_eq_true (List.all_eq_true.1 h4 c hc)
 refine⟨⟨by rw[zh];omega,by omega,by omega,fun c hc=>by have:=ht c hc;omega⟩,⟨⟨by omega,QA h6⟩,by omega,fun r hr=> ?_⟩,h1,h2,h7,ht⟩
 have:=List.all_eq_true.1 h8 r hr
 unfold okR at this
 simp only[Bool.and_eq_true,Nat.ble_eq] at this
 exact⟨by omega,⟨by omega,QA this.2.2⟩⟩
theorem agW{p q:aV}(hp:HH p=true)(hq:HH q=true):cu p q:=by
 obtain⟨p1,p2,p3,p4,p5,p6⟩:=QB hp
 obtain⟨q1,q2,q3,q4,q5,q6⟩:=QB hq
 exact⟨p1,q1,p2,q2,p3,q3,p4,q4,p5,q5,p6,q6⟩
structure ou(C:wu)(p q:aV)(n:Int):Prop where
 eq:C=([p,q],n,())
 ok:cu p q
 c0:(eS p q n).1=0
 inv:kH p.2.1 p.1 q.1=true
 turn:dO p.2.1=q.2.1
def vk(C:wu):Bool:=match C.1 with
 | [p,q]=>HH p&&(HH q&&(AH p.2.1.1&&p.2.1.2.1.all fun r=>yH r p.1 q.1))
 |_=>false
theorem anY{C:wu}(h:vk C=true)(hc:oF C=some true)(ht:dO (List.getD C.1 0 ig).2.1=(List.getD C.1 1 ig).2.1):∃p q n,ou C p q n:=by
 obtain⟨l,n,u⟩:=C
 cases u
 unfold vk at h
 match l,h with
 | [p,q],h=>
   simp only[Bool.and_eq_true] at h
   obtain⟨h1,h2,h3,h4⟩:=h
   have fO:=agW h1 h2
   rw[zvb p q n fO] at hc
   have hc:(eS p q n).1=0:=by simpa using hc
   refine⟨p,q,n,rfl,fO,hc,?_,ht⟩
   unfold kH
   rw[zT (s8.1 hc).mp,h3,h4]
   rfl
theorem ady{p q:aV}{n:Int}(h:cu p q)(hc:(eS p q n).1=0)(hi:kH p.2.1 p.1 q.1=true)(ht:dO p.2.1=q.2.1)(b s:ByteArray)(hb:(b.size:Int)<=n)(ho:dI p q n 0 b=(1,s)):dI q p n 0 s=(1,b)/\(s.size:Int)<=n:=by
 have h0:=s8.1 hc
 have hn2:=h0.n2
 have e:dI p q n 0 b=ej p q n b:=by unfold dI;rw[if_neg (fun e=>e hc),if_pos rfl]
 rw[e] at ho
 obtain⟨m,x,m1,m2,m3,m4,x1,x2,x3,x4⟩:=Qt h (b:=b) (s:=s) (by omega) ho
 have K5:mU q.2.1 q.1 p.1 x=(m,hJ):=by
  rw[<-ht]
  rcases zb6 p.2.1 p.1 q.1 m with⟨f,hf,e⟩|⟨ys,hd,e⟩
  ·rw[e] at m4;injection m4 with _ m4;rw[m4] at hf;exact absurd rfl hf
  ·rw[e] at m4
   injection m4 with m4 _
   have:=ak6 hi h.pm m2.ok hd
   rw[m4] at this
   exact this
 refine⟨?_,x4⟩
 unfold dI
 rw[if_neg (fun e=>e (s8.2 h0.symm)),if_pos rfl]
 unfold ej pn
 rw[x3,akH x1 x2]
 dsimp only
 rw[if_neg (fun e=>e rfl),K5]
 unfold po
 dsimp only
 rw[if_neg (fun e=>e rfl),m3,if_neg (by omega)]
theorem ahI(n:Int)(x s:ByteArray)(hx:(aZ n (bl x)).1=false/\(aZ n (bl x)).2.1=[])(h1:1<=s.size)(h2:(s.size:Int)<=n)(h3:s.size<=65535):
 eW n (bl x) (bl (eX s))=[some s]/\(aZ n (bl (x++eX s))).1=false/\(aZ n (bl (x++eX s))).2.1=[]:=by
 have hf:=aee n s h1 h3 []
 rw[if_neg (by omega),List.nil_append] at hf
 have hp:eX s=strOf [(s.size:Int)/256,(s.size:Int)% 256]++s:=by unfold eX;rw[if_neg (by omega)]
 rw[<-hp] at hf
 have mE:=zb2 n (bl x) (bl (eX s))
 rw[hx.1,hx.2,hf] at mE
 refine⟨?_,by rw[oi,mE],by rw[oi,mE]⟩
 rw[Xz,hx.1,hx.2,hf,mE]
 simp
theorem OD(p q:aV)(n:Int)(z:fk):∀(its:List Item) (d:Int) (i:Nat) (hi:i<its.length),∃d',(bO p q n d its).1.getD i z=(kS p q n d' its[i]).1
 |it::its,d,0,_=>⟨d,rfl⟩
 |it::its,d,i+1,hi=>by
  obtain⟨d',e⟩:=OD p q n z its (kS p q n d it).2 i (by simpa using hi)
  exact⟨d',e⟩
def vJ:wu:=(tG).getD ([],0,())
theorem ahC:tG=some vJ:=by kernel_rfl
theorem acS:vk vJ=true:=by kernel_rfl
theorem acT:oF vJ=some true:=by kernel_rfl
theorem acR:rG vJ=some false:=by kernel_rfl
theorem acq:rG ((List.set (List.set vJ.1 0 (List.getD vJ.1 1 ig)) 1 (List.getD vJ.1 0 ig)),vJ.2.1,())=some false:=by kernel_rfl
theorem adx:dO (List.getD vJ.1 0 ig).2.1=(List.getD vJ.1 1 ig).2.1:=by kernel_rfl
theorem ahD:∃p q n,ou vJ p q n:=anY acS acT adx
def C7(ch:List ByteArray)(i:Int)(x:ByteArray)(s:List Ev)(K:List Ev->Option (List ByteArray×List Ev×Bool×Bool×wu×Gw×Gw)):Option (List ByteArray×List Ev×Bool×Bool×wu×Gw×Gw):=
 bif(decide ((s.length+(List.length ([((0:Int),x,())]:List Ev)))*24<=140737488355328)) then K (s++([((0:Int),x,())]:List Ev)) else none
theorem PL(ch:List ByteArray)(F:List Ev->Option (List ByteArray×List Ev×Bool×Bool×wu×Gw×Gw)):∀(l:List ByteArray) (i:Int) (s:List Ev),s.length+l.length<=1000000->bB (C7 ch) F l i s=F (s++l.map fun x=>((0:Int),x,()))
 | [],i,s,_=>by rw[List.map_nil,List.append_nil];rfl
 |x::l,i,s,h=>by
  rw[List.length_cons] at h
  rw[bB,C7,zT (by simp only[List.length_cons,List.length_nil];omega),zC,PL ch F l (i+1) _ (by simp;omega),List.append_assoc]
  rfl
theorem Pv(l:List ByteArray):my (l.map fun x=>((0:Int),x,()))=(l.map bl).flatten:=by
 unfold my
 rw[List.map_map]
 rfl
theorem alh{C:wu}{p q:aV}{n:Int}(hL:ou C p q n)(dn:List fk)(P:List ByteArray)(hP:P.length<=1000000)(fO:∀b∈P,ki n b)
 (hd:∀(i:Nat) (hi:i<P.length),∃d',dn.getD i ((0:Int),(0:Int),bs [],(0:Int),())=(iJ p q n 0 d' P[i]).1) (hdl:P.length<=dn.length):∀(m j k:Nat) (x:ByteArray),j+m=P.length->m<k->x.size+m*65537<=100000000000->(aZ n (bl x)).1=false/\(aZ n (bl x)).2.1=[]->
 BZ k dn true P (P.length:Int) (j:Int) (gw ([q,p],n,()) n x (bs []) 0)=some (.inr ()):=by
 have hc:=hL.c0
 have h0:=s8.1 hc
 have hn2:=h0.n2
 intro m
 induction m with
 |zero=>
  intro j k x hj hk hs hx
  obtain⟨k,rfl⟩:∃k',k=k'+1:=⟨k-1,by omega⟩
  rw[BZ,Sv,zF (by omega),zD]
 |succ m ih=>
  intro j k x hj hk hs hx
  have sX:x.size+m*65537<=100000000000:=Nat.le_trans (Nat.add_le_add_left (Nat.mul_le_mul_right _ (Nat.le_succ m)) _) hs
  obtain⟨k,rfl⟩:∃k',k=k'+1:=⟨k-1,by omega⟩
  have al:j<P.length:=by omega
  obtain⟨o1,o2⟩:=fO P[j] (List.getElem_mem al)
  obtain⟨d',e⟩:=hd j al
  rw[BZ,Sv,zT (by omega),zC,zi al,zi (by omega),Int.toNat_natCast,e,zv (by omega),zi (by omega)]
  rcases alz hL.ok hc (.inl rfl) d' P[j] (by omega) with e3|_
  ·rw[e3]
   dsimp only
   rw[zF (by decide),Bool.not_false,zC]
   exact ih (j+1) k x (by omega) (by omega) sX hx
  have c9:=zis (p:=p) (q:=q) (n:=n) 0 P[j]
  rcases OC hL.ok hc (.inl rfl) P[j] (by omega) with⟨h3,_⟩|⟨h12,h4⟩
  ·unfold iJ
   rw[if_pos h3]
   dsimp only
   rw[zF (by decide),Bool.not_false,zC]
   exact ih (j+1) k x (by omega) (by omega) sX hx
  by_cases h1:(dI p q n 0 P[j]).1=1
  case neg=>
   unfold iJ
   rw[if_neg (by omega),if_neg h1]
   dsimp only
   rw[zF h1,Bool.not_false,zC]
   exact ih (j+1) k x (by omega) (by omega) sX hx
  unfold iJ
  rw[if_neg (by omega),if_pos h1]
  dsimp only
  rw[zT rfl,Bool.not_true,zD]
  obtain⟨b1,b2⟩:=ady hL.ok hc hL.inv hL.turn P[j] (dI p q n 0 P[j]).2 o2 (Prod.ext h1 rfl)
  generalize(dI p q n 0 P[j]).2=s at*
  obtain⟨f1,f2,f3⟩:=ahI n x s hx h4 b2 c9
  have jo:=Ns h4 c9
  have hE:eg n (x,bs []) ((0:Int),eX s,())=([((0:Int),some s)],(x++eX s,bs [])):=by
   unfold eg
   rw[if_pos rfl]
   dsimp only
   rw[f1]
   rfl
  have aaw:iJ q p n 0 0 s=((1,1,eX P[j],0,()),0):=by
   unfold iJ
   rw[b1]
   dsimp only
   rw[if_neg (by decide),if_pos rfl]
   rfl
  have hz:(bs []).size=0:=rfl
  rw[NQ q p n hL.ok.symm x (bs []) 0 [((0:Int),eX s,())] (by rw[zb3];dsimp only;rw[show rA []=0 from rfl];omega) (by simp),zc]
  rw[ct,ct,hE]
  dsimp only
  rw[show([((0:Int),some s)]:List Item)++ []=[((0:Int),some s)] from rfl,bO,bO,show kS q p n 0 ((0:Int),some s)=iJ q p n 0 0 s from rfl,aaw]
  dsimp only
  rw[show(([((1:Int),(1:Int),eX P[j],(0:Int),())]:List fk).length:Int)=1 from rfl,zT rfl,Bool.not_true,zD,zo (by omega) (by show(0:Int)<1;omega),show P.getD j (bs [])=P[j] from by rw[List.getD_eq_getElem?_getD,List.getElem?_eq_getElem al];rfl,ah1 _ (by omega),zc]
  rw[show List.getD [((1:Int),(1:Int),eX P[j],(0:Int),())] (0:Int).toNat ((0:Int),(0:Int),bs [],(0:Int),())=((1:Int),(1:Int),eX P[j],(0:Int),()) from rfl]
  dsimp only
  rw[zT rfl,zT rfl,zT rfl]
  show BZ k dn true P (P.length:Int) ((j+1:Nat):Int) (gw ([q,p],n,()) n (x++eX s) (bs []) 0)=_
  exact ih (j+1) k (x++eX s) (by omega) (by omega) (by rw[ByteArray.size_append,jo];omega) ⟨f2,f3⟩
theorem hI(l:List ByteArray)(hl:Wf (.sl 0 .str) l):Jw l=some true:=by
 obtain⟨b,hb,hs⟩:=anU l 2500 (by omega) (by omega) (NR hl)
 unfold Jw Zb
 rw[anA,zc,Bool.not_true,zD,hb,zc]
 cases b with
 |true=>rw[zC,zc]
 |false=>
 have hs:=hs rfl
 obtain⟨p,q,n,hL⟩:=ahD
 have hg:=acR
 have xQ:=acq
 rw[zD,ahC,zc,hL.eq]
 rw[hL.eq] at hg xQ
 have hc:=hL.c0
 have hc':(eS q p n).1=0:=s8.2 (s8.1 hc).symm
 have h0:=s8.1 hc
 have hn2:=h0.n2
 have hn1:=h0.n1
 rw[PK p q n hg (fun _=>hL.ok) zox,zc,zT hc,Bool.or_false,Bool.not_true,Bool.or_false,zD,Sum.elim_inr,sB,sC,sB,sC]
 rw[show(List.set (List.set ([p,q],n,()).1 (0:Int).toNat (List.getD ([p,q],n,()).1 (1:Int).toNat _)) (1:Int).toNat (List.getD ([p,q],n,()).1 (0:Int).toNat _))=[q,p] from rfl]
 rw[PK q p n xQ (fun _=>hL.ok.symm) zox,zc,zT hc']
 simp only[Bool.or_false,Bool.not_true,zD,Sum.elim_inr]
 have:=cD (bs []) l (by rw[zh];omega) (C7 l) (fun s=>some (l,s,true,true,([q,p],n,()),gw ([p,q],n,()) n (bs []) (bs []) 0,gw ([q,p],n,()) n (bs []) (bs []) 0))
  (fun j i s=>Su j l s true true l (l.length:Int) i ([q,p],n,()) (gw ([p,q],n,()) n (bs []) (bs []) 0) (gw ([q,p],n,()) n (bs []) (bs []) 0)) (fun j i s=>rfl) []
 refine(congrArg (fun o=>Option.bind o _) (this.trans (PL l _ l 0 [] (by simp;omega)))).trans ?_
 rw[zc,List.nil_append]
 unfold Zc
 dsimp only
 have hj:=aen l
 have hbj:(bl (cI l)).length=sizes l:=by rw[zg,hj]
 rw[al5 l (by have:=NR hl;exact this) (by omega),zc,zrh n (cI l) (by omega),zc]
 dsimp only
 have aaC:=alJ n (bl (cI l)) (fun x hx=>j8 hx)
 have hP:(fK n 0 (bl (cI l))).1=(aZ n (bl (cI l))).2.2:=by rw[aaC]
 have hlen:=(zrk n (bl (cI l))).2
 have aas:∀b∈(aZ n (bl (cI l))).2.2,ki n b:=(akV n (bl (cI l)) (false,[],[]) (fun x hx=>j8 hx) (by simp) (.inl (by simp)) (by simp)).2
 have c9:rA (l.map fun x=>((0:Int),x,()))=sizes l:=by rw[<-zvh,Pv,<-zr2,hbj]
 have hz:(bs []).size=0:=rfl
 obtain⟨i1,_⟩:=Xv n 0 (.inl rfl) (l.map fun x=>((0:Int),x,())) BD (fun e he=>by
  obtain⟨x,_,rfl⟩:=List.mem_map.1 he
  rfl)
 have i2:(ct n BD (l.map fun x=>((0:Int),x,()))).1=(gT n (bl (cI l))).map fun i=>((0:Int),i):=by
  rw[i1,Pv,<-zr2]
  show(eW n [] (bl (cI l))).map _=_
  unfold eW
  rw[ael,List.nil_append]
  rfl
 rw[NQ p q n hL.ok (bs []) (bs []) 0 _ (by omega) (by rw[List.length_map];omega),zc]
 rw[i2,hP]
 have hil:(aZ n (bl (cI l))).2.2.length<=(gT n (bl (cI l))).length:=by unfold gT;rw[List.length_append,List.length_map];omega
 have hol:=QJ p q n ((gT n (bl (cI l))).map fun i=>((0:Int),i)) 0
 rw[List.length_map] at hol
 have cC:∀(i:Nat) (hi:i<(aZ n (bl (cI l))).2.2.length),∃d',(bO p q n 0 ((gT n (bl (cI l))).map fun i=>((0:Int),i))).1.getD i ((0:Int),(0:Int),bs [],(0:Int),())=(iJ p q n 0 d' (aZ n (bl (cI l))).2.2[i]).1:=fun i hi=>by
  obtain⟨d',e⟩:=OD p q n ((0:Int),(0:Int),bs [],(0:Int),()) ((gT n (bl (cI l))).map fun i=>((0:Int),i)) 0 i (by rw[List.length_map];omega)
  refine⟨d',e.trans ?_⟩
  have:((gT n (bl (cI l))).map fun i=>((0:Int),i))[i]'(by rw[List.length_map];omega)=((0:Int),some (aZ n (bl (cI l))).2.2[i]):=by
   rw[List.getElem_map]
   congr 1
   unfold gT
   rw[List.getElem_append_left (by rw[List.length_map];exact hi),List.getElem_map]
  rw[this]
  rfl
 dsimp only
 rw[zF (by omega),zD]
 have:=alh hL _ (aZ n (bl (cI l))).2.2 (by omega) aas cC (by omega) (aZ n (bl (cI l))).2.2.length 0 af (bs []) (by omega) (by rw[zu];omega) (by omega) ⟨rfl,rfl⟩
 rw[show((0:Nat):Int)=0 from rfl] at this
 rw[this,zc]
 rfl
end bj

