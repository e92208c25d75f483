/- No condition. -/
import Derived.Test.YtpjkbbihjoflnaaGreatDoorK3
import Derived.Test.YtpjkbbihjoflnaaGreatDoorProg
set_option linter.unusedVariables false
set_option linter.unusedSimpArgs false
set_option maxRecDepth 100000
namespace bm
open Go.IntKind renaming wrap->zW,i64->zI,u8->zU
open Go Go.Ref
theorem Fa{s:zg}:∀{l:List bh} {last:Int},sG s l last=none↔(∀v∈l,bq s v.1=true/\bI (aY s v.1) v.2.1=0)/\jY l/\∀v∈l,last<v.1
 | [],last=>by simp [sG,jY]
 |x::r,last=>by
  rw[sG]
  by_cases h1:x.1<=last
  ·rw[zT h1,zC]
   refine⟨fun h=>(by cases h),fun h=> ?_⟩
   have:=h.2.2 x List.mem_cons_self
   omega
  rw[zF h1,zD]
  cases h2:bq s x.1 with
  |false=>
   refine⟨fun h=>(by cases h),fun h=> ?_⟩
   have:=(h.1 x List.mem_cons_self).1
   rw[h2] at this;cases this
  |true=>
   rw[Bool.not_true,zD]
   by_cases h3:bI (aY s x.1) x.2.1=0
   ·rw[zT h3,Bool.not_true,zD,Fa]
    constructor
    ·rintro⟨g1,g2,g3⟩
     refine⟨fun v hv=> ?_,List.pairwise_cons.2 ⟨g3,g2⟩,fun v hv=> ?_⟩
     ·rcases List.mem_cons.1 hv with rfl|hv
      ·exact⟨h2,h3⟩
      ·exact g1 v hv
     ·rcases List.mem_cons.1 hv with rfl|hv
      ·omega
      ·have:=g3 v hv;omega
    ·rintro⟨g1,g2,g3⟩
     have g2:=List.pairwise_cons.1 g2
     exact⟨fun v hv=>g1 v (List.mem_cons_of_mem _ hv),g2.2,g2.1⟩
   ·rw[zF h3,Bool.not_false,zC]
    refine⟨fun h=>(by cases h),fun h=> ?_⟩
    exact absurd (h.1 x List.mem_cons_self).2 h3
theorem zih{s:zg}:∀{l:List bh} {last:Int} {f:bZ},sG s l last=some f->f.1≠0
 | [],last,f,h=>by cases h
 |x::r,last,f,h=>by
  rw[sG] at h
  cases h1:decide (x.1<=last) with
  |true=>rw[h1] at h;cases h;exact(by decide:(11:Int)≠0)
  |false=>
   rw[h1,zD] at h
   cases h2:bq s x.1 with
   |false=>rw[h2] at h;cases h;exact(by decide:(9:Int)≠0)
   |true=>
    rw[h2,Bool.not_true,zD] at h
    by_cases h3:bI (aY s x.1) x.2.1=0
    ·rw[zT h3,Bool.not_true,zD] at h
     exact zih h
    ·rw[zF h3,Bool.not_false,zC] at h
     cases h
     exact h3
structure kH(s:zg)(m:bK):Prop where
 iE:(hM s).1=0
 right:fR m.1=true
 ver:gB m.1=s.2.1
 jC:sG s m.2.1 0=none
theorem Qj{s:zg}{m:bK}:(gI s m).1=0↔kH s m:=by
 unfold gI
 by_cases h1:(hM s).1=0
 ·rw[zT h1,Bool.not_true,zD]
  cases h2:fR m.1 with
  |false=>exact⟨fun h=>absurd h (show¬(7:Int)=0 by decide),fun h=>by have:=h.right;rw[h2] at this;cases this⟩
  |true=>
   rw[Bool.not_true,zD]
   by_cases h3:gB m.1=s.2.1
   ·rw[zT h3,Bool.not_true,zD]
    cases h4:sG s m.2.1 0 with
    |none=>exact⟨fun _=>⟨h1,h2,h3,h4⟩,fun _=>rfl⟩
    |some f=>exact⟨fun h=>absurd h (zih h4),fun h=>by have:=h.jC;rw[h4] at this;cases this⟩
   ·rw[zF h3]
    exact⟨fun h=>absurd h (show¬(7:Int)=0 by decide),fun h=>absurd h.ver h3⟩
 ·rw[zF h1]
  exact⟨fun h=>absurd h (show¬(1:Int)=0 by decide),fun h=>absurd h.iE h1⟩
theorem kH.eq{s:zg}{m:bK}(h:kH s m):gI s m=kA:=by
 unfold gI
 rw[zT h.iE,h.right,zT h.ver,h.jC];rfl
theorem Fg{s:zg}(h:iL s){no:Int}(hh:bq s no=true):2<=no/\no<=128:=by
 have:=(zpa (Tn h hh)).1
 rw[(TC hh).2] at this
 exact this
theorem P5{q:aV}{b:zg}{t:ByteArray}(h:(gC q b t).2=0)(hz:(gC q b t).1.1≠0):q.1≠2/\(gC q b t).1.1=q.2.2.1:=by
 unfold gC at h hz⊢
 by_cases k1:q.1=1
 ·rw[zT k1,zC];exact⟨by omega,rfl⟩
 rw[zF k1,zD] at h hz⊢
 by_cases k2:q.1=2
 ·rw[zT k2,zC] at hz;exact absurd rfl hz
 rw[zF k2,zD] at h hz⊢
 refine⟨k2,?_⟩
 by_cases k3:q.1=3
 ·rw[zT k3,zC]
 rw[zF k3,zD] at h hz⊢
 by_cases k4:q.1=4
 ·rw[zT k4,zC] at h hz⊢
  cases hs:bq b q.2.2.1 with
  |false=>rw[hs] at h;cases h
  |true=>
   rw[hs] at h
   rw[Bool.not_true,zD] at h⊢
   cases hp:(fL t (aY b q.2.2.1).2.2.2.1).2 with
   |false=>rw[hp] at h;cases h
   |true=>rfl
 rw[zF k4,zD] at h hz⊢
 by_cases k5:q.1=5
 ·rw[zT k5,zC] at h hz⊢
  cases hp:(zx q.2.2.2.2.1 t).2 with
  |false=>rw[hp] at h;cases h
  |true=>rfl
 ·rw[zF k5,zD] at hz;exact absurd rfl hz
theorem G5{l:List bh}{v:bh}:v∈cA l↔v∈l/\v.1≠0:=by
 unfold cA
 rw[List.mem_filter]
 simp
section
variable {m:Map} {a b:zg}
theorem eQ.fk(h:eQ m a b):m.2.1.Pairwise fun x y=>kB x y=false:=(zis h.uX).1
theorem eQ.okA(h:eQ m a b):iL a:=(Bp a).1 h.sa
theorem eQ.okB(h:eQ m a b):iL b:=(Bp b).1 h.sb
theorem eQ.to(h:eQ m a b){r:aV}(hr:r∈m.2.1)(k:r.1≠2):bq b r.2.2.1=true:=(zie (S3 (h.rules r hr)).2.1).2.2.2 k
theorem eQ.SK(h:eQ m a b){r:aV}(hr:r∈m.2.1)(k:r.1≠2):r.2.2.1≠0:=by
 have:=Fg h.okB (h.to hr k)
 omega
theorem N0(h:eQ m a b):∀{l ys:List bh},jY l->kz m b l= .inr ys->jR (cA ys)
 | [],ys,_,hy=>by cases hy;exact List.Pairwise.nil
 |v::r,ys,hr,hy=>by
  rw[kz] at hy
  have hr:=List.pairwise_cons.1 hr
  cases hf:fa m v.1 with
  |none=>rw[hf] at hy;cases hy
  |some q=>
   rw[hf] at hy
   dsimp only at hy
   cases hz:decide ((gC q b v.2.1).2=0) with
   |false=>rw[hz] at hy;cases hy
   |true=>
    rw[hz,Bool.not_true,zD] at hy
    cases hv:kz m b r with
    |inl f=>rw[hv] at hy;cases hy
    |inr zs=>
     rw[hv] at hy
     cases hy
     have ih:=N0 h hr.2 hv
     unfold cA at ih⊢
     rw[List.filter_cons]
     split
     ·rename_i ZZ
      have ZZ:(gC q b v.2.1).1.1≠0:=by simpa using ZZ
      refine List.pairwise_cons.2 ⟨fun z hzm=> ?_,ih⟩
      obtain⟨z1,z2⟩:=G5.1 hzm
      obtain⟨w,hw,q',hf',h0',rfl⟩:=PT hv z z1
      obtain⟨a1,a2⟩:=P5 (of_decide_eq_true hz) ZZ
      obtain⟨b1,b2⟩:=P5 h0' z2
      rw[a2,b2]
      obtain⟨qm,qf⟩:=G1 hf
      obtain⟨qm',qf'⟩:=G1 hf'
      have aq:=hr.1 w hw
      have bJ:q≠q':=fun e=>by subst e;omega
      exact zj9 (NK h.fk q qm q' qm' bJ) (h.SK qm a1)
     ·exact ih
theorem z85{l:List aV}{v:bh}:v∈jQ l↔∃r∈l,r.1=3/\v=(r.2.2.1,r.2.2.2.1,()):=by
 unfold jQ
 rw[List.mem_map]
 constructor
 ·rintro⟨r,hr,rfl⟩
  rw[List.mem_filter] at hr
  exact⟨r,hr.1,of_decide_eq_true hr.2,rfl⟩
 ·rintro⟨r,hr,k,rfl⟩
  exact⟨r,List.mem_filter.2 ⟨hr,zT k⟩,rfl⟩
theorem acb(h:eQ m a b):jR (jQ m.2.1):=by
 unfold jQ
 refine List.pairwise_map.2 ?_
 refine List.Pairwise.imp_of_mem ?_ (h.fk.filter _)
 intro x y hx hy AX
 have hx:=List.mem_filter.1 hx
 have k:x.1=3:=of_decide_eq_true hx.2
 exact zj9 AX (h.SK hx.1 (by omega))
theorem acE(h:eQ m a b){l ys:List bh}(hl:∀v∈l,bq a v.1=true)(hy:kz m b l= .inr ys):∀c∈jQ m.2.1,∀y∈cA ys,c.1≠y.1:=by
 intro c hc y hym
 obtain⟨r,hr,k,rfl⟩:=z85.1 hc
 obtain⟨y1,y2⟩:=G5.1 hym
 obtain⟨w,hw,q,hf,h0,rfl⟩:=PT hy y y1
 obtain⟨b1,b2⟩:=P5 h0 y2
 rw[b2]
 obtain⟨qm,qf⟩:=G1 hf
 have hwr:=Fg h.okA (hl w hw)
 have hz:=(zie (S3 (h.rules r hr)).2.1).1 k
 have bJ:r≠q:=fun e=>by subst e;omega
 exact zj9 (NK h.fk r hr q qm bJ) (h.SK hr (by omega))
theorem LB(h:eQ m a b){l ys:List bh}(hr:jY l)(hl:∀v∈l,bq a v.1=true)(hy:kz m b l= .inr ys):jR (jQ m.2.1++cA ys):=
 List.pairwise_append.2 ⟨acb h,N0 h hr hy,acE h hl hy⟩
theorem LC(h:eQ m a b){l ys:List bh}(hy:kz m b l= .inr ys):∀v∈jQ m.2.1++cA ys,bq b v.1=true:=by
 intro v hv
 rcases List.mem_append.1 hv with hv|hv
 ·obtain⟨r,hr,k,rfl⟩:=z85.1 hv
  exact h.to hr (by omega)
 ·obtain⟨y1,y2⟩:=G5.1 hv
  obtain⟨w,hw,q,hf,h0,rfl⟩:=PT hy v y1
  obtain⟨b1,b2⟩:=P5 h0 y2
  rw[b2]
  exact h.to (G1 hf).1 b1
end
def nN(vs:List bh):Nat->Nat->List bh
 |0,_=>[]
 |n+1,k=>(vs.filter fun v=>decide (v.1=(k:Int)))++nN vs n (k+1)
theorem SU{vs:List bh}{v:bh}:∀{n k:Nat},v∈nN vs n k↔v∈vs/\(k:Int)<=v.1/\v.1<((k+n:Nat):Int)
 |0,k=>by simp only[nN,List.not_mem_nil,false_iff];omega
 |n+1,k=>by
  rw[nN,List.mem_append,List.mem_filter,decide_eq_true_eq,SU]
  constructor
  ·rintro(⟨h1,h2⟩|⟨h1,h2,h3⟩)
   ·exact⟨h1,by omega,by omega⟩
   ·exact⟨h1,by omega,by omega⟩
  ·rintro⟨h1,h2,h3⟩
   by_cases e:v.1=(k:Int)
   ·exact .inl ⟨h1,e⟩
   ·exact .inr ⟨h1,by omega,by omega⟩
theorem zdw{vs:List bh}(h:jR (cA vs)):∀(n k:Nat),1<=k->jY (nN vs n k)
 |0,k,_=>List.Pairwise.nil
 |n+1,k,hk=>by
  rw[nN]
  refine List.pairwise_append.2 ⟨?_,zdw h n (k+1) (by omega),fun x hx y hy=> ?_⟩
  ·have e:(vs.filter fun v=>decide (v.1=(k:Int)))=(cA vs).filter fun v=>decide (v.1=(k:Int)):=by
    unfold cA
    rw[List.filter_filter]
    congr 1
    funext v
    by_cases hv:v.1=(k:Int)
    ·rw[zT hv,zF (by omega:¬v.1=0)];rfl
    ·rw[zF hv];rfl
   rw[e]
   refine List.Pairwise.imp_of_mem ?_ (h.filter _)
   intro x y hx hy bJ
   have h1:=of_decide_eq_true (List.mem_filter.1 hx).2
   have h2:=of_decide_eq_true (List.mem_filter.1 hy).2
   omega
  ·have h1:=of_decide_eq_true (List.mem_filter.1 hx).2
   have h2:=(SU.1 hy).2.1
   omega
def Y0(m:Map)(a b:zg)(x:bK):bK×bZ:=
 bif !decide ((dC m a b).1=0) then(dy,(1,-1,())) else bif !decide ((gI a x).1=0) then(dy,gI a x) else bif !(zx m.1 x.1).2 then(dy,(7,0,()))
 else match kz m b x.2.1 with
  | .inl f=>(dy,f)
  | .inr ys=>(((zx m.1 x.1).1,nN (ys++jQ m.2.1) 127 2,()),kA)
theorem zj4(l r:List bh):cA (l++r)=cA l++cA r:=by unfold cA;rw[List.filter_append]
theorem zj5{m:Map}{a b:zg}(h:eQ m a b):cA (jQ m.2.1)=jQ m.2.1:=by
 unfold cA
 refine List.filter_eq_self.2 fun v hv=> ?_
 obtain⟨r,hr,k,rfl⟩:=z85.1 hv
 have:=h.SK hr (by omega)
 simpa using this
theorem zv0{l r:List bh}(h:jR (l++r)):jR (r++l):=by
 obtain⟨h1,h2,h3⟩:=List.pairwise_append.1 h
 exact List.pairwise_append.2 ⟨h2,h1,fun x hx y hy e=>h3 y hy x hx e.symm⟩
theorem agf{m:Map}{a b:zg}(h:eQ m a b){l ys:List bh}(hr:jY l)(hl:∀v∈l,bq a v.1=true)(hy:kz m b l= .inr ys)(t:ByteArray):
 z49 (cA ys) (rX m.2.1 (t,[],()))=(t,nN (ys++jQ m.2.1) 127 2,()):=by
 rw[zaz,<-zed]
 have Ay:=LB h hr hl hy
 have hs:cA (ys++jQ m.2.1)=cA ys++jQ m.2.1:=by rw[zj4,zj5 h]
 refine am9.2 ⟨zp5 _ _,?_⟩
 refine O4 (zw7 _ List.Pairwise.nil) (zdw (by rw[hs];exact zv0 Ay) 127 2 (by omega)) fun v=> ?_
 rw[zw6 _ _ Ay (fun _ _ w hw=>by cases hw) v,SU]
 constructor
 ·rintro(hv|hv)
  ·cases hv
  ·have hb:=Fg h.okB (LC h hy v hv)
   refine⟨?_,by omega,by omega⟩
   rcases List.mem_append.1 hv with hv|hv
   ·exact List.mem_append_right _ hv
   ·exact List.mem_append_left _ (G5.1 hv).1
 ·rintro⟨hv,h1,h2⟩
  right
  rcases List.mem_append.1 hv with hv|hv
  ·exact List.mem_append_right _ (G5.2 ⟨hv,by omega⟩)
  ·exact List.mem_append_left _ hv
theorem zwg(m:Map)(a b:zg)(x:bK):sd m a b x=Y0 m a b x:=by
 unfold sd Y0
 by_cases h1:(dC m a b).1=0
 ·rw[zT h1,Bool.not_true,zD,zD]
  by_cases h2:(gI a x).1=0
  ·rw[zT h2,Bool.not_true,zD,zD]
   cases(zx m.1 x.1).2 with
   |false=>rfl
   |true=>
    rw[Bool.not_true,zD,zD]
    obtain⟨g1,g2,g3⟩:=Fa.1 (Qj.1 h2).jC
    rcases zb2 m b x.2.1 (rX m.2.1 ((zx m.1 x.1).1,[],())) with⟨f,o,e1,e2⟩|⟨ys,e1,e2⟩
    ·rw[e1,e2]
    ·rw[e1,e2]
     dsimp only
     rw[agf (zr2.1 h1) g2 (fun v hv=>(g1 v hv).1) e2]
  ·rw[zF h2];rfl
 ·rw[zF h1];rfl
end bm

namespace bm
open Go.IntKind renaming wrap->zW,i64->zI,u8->zU
open Go Go.Ref
abbrev Lp:Ty:= .pair (.int .i64) (.pair (.int .i64) (.pair (.int .i64) (.pair (.int .i64) (.pair (.int .i64) .unit))))
abbrev anm:Ty:= .pair (.int .i64) (.pair (.int .i64) (.pair (.sl 0 Lp) .unit))
abbrev Bc:Ty:= .pair .str (.pair .str .unit)
abbrev Lo:Ty:= .pair (.int .i64) (.pair (.int .i64) (.pair (.int .i64) (.pair .str (.pair (.sl 0 Bc) .unit))))
abbrev Ln:Ty:= .pair (.sl 0 Bc) (.pair (.sl 0 Lo) .unit)
def small(n:Nat)(l:List bA):Bool:=l.all fun p=> !decide ((n:Int)<(p.1.size:Int))&& !decide ((n:Int)<(p.2.1.size:Int))
theorem z193{n:Nat}{l:List bA}(hn:n<=1200)(h:small n l=true):∀p∈l,p.1.size<=1099511627776/\p.2.1.size<=1099511627776:=fun p hp=>by
 have:=List.all_eq_true.1 h p hp
 simp only[Bool.and_eq_true,Bool.not_eq_true',decide_eq_false_iff_not] at this
 omega
def grR(t:Bool):Option (Sum Bool Unit):=some (bif t then .inr () else .inl true)
theorem PA:∀(l:List bA) (i:Int),bk (fun i (p:bA) (s:Unit) K=>bif(decide (1200<((p.1).size:Int))) then some (Sum.inl true) else(bif(decide (1200<((p.2.1).size:Int))) then some (Sum.inl true) else K s)) (fun _=>some (Sum.inr ())) l i ()=grR (small 1200 l)
 | [],i=>rfl
 |p::r,i=>by
  simp only[bk,small,List.all_cons]
  by_cases h1:(1200:Int)<(p.1.size:Int)
  ·rw[zT h1,zT (show((1200:Nat):Int)<(p.1.size:Int) from h1)];rfl
  ·rw[zF h1,zF (show¬((1200:Nat):Int)<(p.1.size:Int) from h1)]
   by_cases h2:(1200:Int)<(p.2.1.size:Int)
   ·rw[zT h2,zT (show((1200:Nat):Int)<(p.2.1.size:Int) from h2)];rfl
   ·rw[zF h2,zF (show¬((1200:Nat):Int)<(p.2.1.size:Int) from h2)]
    exact PA r (i+1)
def ym(r:aV):Bool:=decide ((1200:Int)<(r.2.2.2.1.size:Int))||(decide ((300:Int)<(r.2.2.2.2.1.length:Int))|| !small 1200 r.2.2.2.2.1)
theorem ada(r:aV)(h:r.2.2.2.2.1.length<=maxLen):nX r=some (ym r):=by
 unfold nX TX ym
 cases decide ((1200:Int)<(r.2.2.2.1.size:Int)) with
 |true=>rfl
 |false=>
  cases decide ((300:Int)<(r.2.2.2.2.1.length:Int)) with
  |true=>rfl
  |false=>
   simp only[zD,Bool.false_or]
   have:=ly jm r.2.2.2.2.1 h (fun i (p:bA) (s:Unit) K=>bif(decide (1200<((p.1).size:Int))) then some (Sum.inl true) else(bif(decide (1200<((p.2.1).size:Int))) then some (Sum.inl true) else K s)) (fun _=>some (Sum.inr ()))
    (fun k i s=>yc k i r) (fun k i s h0 h1=>by
      show yc (k+1) i r=_
      conv=>lhs;unfold yc Qs
      rw[zT h1,zC,zn h0 h1,zn h0 h1]
      rfl) (fun k s=>by
      show yc (k+1) r.2.2.2.2.1.length r=_
      conv=>lhs;unfold yc Qs
      rw[zF (by omega),zD]) ()
   rw[this,PA]
   unfold grR
   cases small 1200 r.2.2.2.2.1<;>rfl
theorem agN{r:aV}(h:ym r=false):dX r:=by
 unfold ym at h
 simp only[Bool.or_eq_false_iff,decide_eq_false_iff_not,Bool.not_eq_false'] at h
 obtain⟨h1,h2,h3⟩:=h
 exact⟨by omega,by omega,z193 (by omega) h3⟩
theorem Pz(m:Map):∀(l:List bA) (i:Int),bk (fun i (p:bA) (s:Unit) K=>bif(decide (100<((p.1).size:Int))) then some (Sum.inl (true,m)) else(bif(decide (100<((p.2.1).size:Int))) then some (Sum.inl (true,m)) else K s)) (fun _=>some (Sum.inr m)) l i ()=some (bif small 100 l then .inr m else .inl (true,m))
 | [],i=>rfl
 |p::r,i=>by
  simp only[bk,small,List.all_cons]
  by_cases h1:(100:Int)<(p.1.size:Int)
  ·rw[zT h1,zT (show((100:Nat):Int)<(p.1.size:Int) from h1)];rfl
  ·rw[zF h1,zF (show¬((100:Nat):Int)<(p.1.size:Int) from h1)]
   by_cases h2:(100:Int)<(p.2.1.size:Int)
   ·rw[zT h2,zT (show((100:Nat):Int)<(p.2.1.size:Int) from h2)];rfl
   ·rw[zF h2,zF (show¬((100:Nat):Int)<(p.2.1.size:Int) from h2)]
    exact Pz m r (i+1)
theorem Py:∀(l:List aV) (i:Int),(∀r∈l,r.2.2.2.2.1.length<=maxLen)->bk (fun i (x:aV) (s:Unit) K=>((nX x).bind fun r1=>(bif r1 then some (Sum.inl true) else K s))) (fun _=>some (Sum.inr ())) l i ()=some (bif l.any ym then Sum.inl true else Sum.inr ())
 | [],i,_=>rfl
 |r::l,i,h=>by
  simp only[bk,List.any_cons]
  rw[ada r (h r List.mem_cons_self),Option.bind_some]
  cases ym r with
  |true=>rfl
  |false=>exact Py l (i+1) fun q hq=>h q (List.mem_cons_of_mem _ hq)
def BK(m:Map):Bool:=decide ((300:Int)<(m.1.length:Int))||(decide ((300:Int)<(m.2.1.length:Int))||(!small 100 m.1||m.2.1.any ym))
theorem adb(m:Map)(h1:m.1.length<=maxLen)(h2:m.2.1.length<=maxLen)(h3:∀r∈m.2.1,r.2.2.2.2.1.length<=maxLen):lO m=some (BK m):=by
 unfold lO Ua BK
 cases decide ((300:Int)<(m.1.length:Int)) with
 |true=>rfl
 |false=>
  cases decide ((300:Int)<(m.2.1.length:Int)) with
  |true=>rfl
  |false=>
   simp only[zD,Bool.false_or]
   have e1:=ly jm m.1 h1 (fun i (p:bA) (s:Unit) K=>bif(decide (100<((p.1).size:Int))) then some (Sum.inl (true,m)) else(bif(decide (100<((p.2.1).size:Int))) then some (Sum.inl (true,m)) else K s)) (fun _=>some (Sum.inr m))
    (fun k i s=>yd k i m) (fun k i s h0 h1=>by
      show yd (k+1) i m=_
      conv=>lhs;unfold yd Qy
      rw[zT h1,zC,zn h0 h1,zn h0 h1]
      rfl) (fun k s=>by
      show yd (k+1) m.1.length m=_
      conv=>lhs;unfold yd Qy
      rw[zF (by omega),zD]) ()
   rw[e1,Pz]
   cases small 100 m.1 with
   |false=>rfl
   |true=>
    simp only[zC,Option.bind_some,Sum.elim_inr,Bool.not_true,Bool.false_or]
    unfold Ub
    have e2:=cw gO m.2.1 h2 (fun i (x:aV) (s:Unit) K=>((nX x).bind fun r1=>(bif r1 then some (Sum.inl true) else K s))) (fun _=>some (Sum.inr ()))
     (fun k i s=>Qx k i m) (fun k i s=>rfl) ()
    dsimp only
    rw[e2,Py _ _ h3]
    cases m.2.1.any ym<;>rfl
theorem Mc{m:Map}(h:BK m=false):dM m:=by
 unfold BK at h
 simp only[Bool.or_eq_false_iff,decide_eq_false_iff_not,Bool.not_eq_false'] at h
 obtain⟨h1,h2,h3,h4⟩:=h
 refine⟨⟨by omega,z193 (by omega) h3⟩,by omega,fun r hr=>agN ?_⟩
 cases hg:ym r with
 |false=>rfl
 |true=>rw[List.any_eq_true.2 ⟨r,hr,hg⟩] at h4;cases h4
theorem NZ{m:Map}(h:Wf Ln m):lO m=some (BK m):=
 adb m h.1.1 h.2.1.1 fun r hr=>(h.2.1.2 r hr).2.2.2.2.1.1
theorem acA{r:aV}{b:zg}{t:ByteArray}(ht:t.size<=1099511627776)(hr:dX r):(gC r b t).1.2.1.size<=1099511627776:=by
 have h0:(bs []).size<=1099511627776:=by decide
 unfold gC
 cases decide (r.1=1) with
 |true=>exact ht
 |false=>
  rw[zD]
  cases decide (r.1=2) with
  |true=>exact h0
  |false=>
   rw[zD]
   cases decide (r.1=3) with
   |true=>exact hr.text
   |false=>
    rw[zD]
    cases decide (r.1=4) with
    |true=>
     rw[zC]
     cases bq b r.2.2.1 with
     |false=>exact h0
     |true=>
      rw[Bool.not_true,zD]
      cases hp:(fL t (aY b r.2.2.1).2.2.2.1).2 with
      |false=>exact h0
      |true=>
       obtain⟨p1,p2,p3,p4⟩:=O2 hp
       show(fL t (aY b r.2.2.1).2.2.2.1).1.size<=_
       omega
    |false=>
     rw[zD]
     cases decide (r.1=5) with
     |true=>
      rw[zC]
      cases hp:(zx r.2.2.2.2.1 t).2 with
      |false=>exact h0
      |true=>
       obtain⟨p,hm,_,hq⟩:=zdq hp
       show(zx r.2.2.2.2.1 t).1.size<=_
       rw[hq]
       exact(hr.fk.sz p hm).2
     |false=>exact h0
theorem zii{m:Map}{b:zg}:∀{l:List bh} {f:bZ},kz m b l= .inl f->f.1≠0
 | [],f,h=>by cases h
 |v::r,f,h=>by
  rw[kz] at h
  cases hf:fa m v.1 with
  |none=>rw[hf] at h;cases h;exact(by decide:(9:Int)≠0)
  |some q=>
   rw[hf] at h
   dsimp only at h
   by_cases hz:(gC q b v.2.1).2=0
   ·rw[zT hz,Bool.not_true,zD] at h
    cases hr:kz m b r with
    |inl g=>rw[hr] at h;cases h;exact zii hr
    |inr ys=>rw[hr] at h;cases h
   ·rw[zF hz,Bool.not_false,zC] at h
    cases h;exact hz
structure cr(m:Map)(a b:zg)(x:bK)(ys:List bh):Prop where
 map:eQ m a b
 msg:kH a x
 head:(zx m.1 x.1).2=true
 u6:kz m b x.2.1= .inr ys
theorem ac0(m:Map)(a b:zg)(x:bK):(∃f,f.1≠0/\sd m a b x=(dy,f))\/∃ys,cr m a b x ys/\sd m a b x=(((zx m.1 x.1).1,nN (ys++jQ m.2.1) 127 2,()),kA):=by
 rw[zwg]
 unfold Y0
 by_cases h1:(dC m a b).1=0
 ·rw[zT h1,Bool.not_true,zD]
  by_cases h2:(gI a x).1=0
  ·rw[zT h2,Bool.not_true,zD]
   cases h3:(zx m.1 x.1).2 with
   |false=>exact .inl ⟨_,by decide,rfl⟩
   |true=>
    rw[Bool.not_true,zD]
    cases h4:kz m b x.2.1 with
    |inl f=>exact .inl ⟨f,zii h4,rfl⟩
    |inr ys=>exact .inr ⟨ys,⟨zr2.1 h1,Qj.1 h2,h3,h4⟩,rfl⟩
  ·rw[zF h2];exact .inl ⟨_,h2,rfl⟩
 ·rw[zF h1];exact .inl ⟨_,by decide,rfl⟩
theorem cr.eq{m:Map}{a b:zg}{x:bK}{ys:List bh}(h:cr m a b x ys):sd m a b x=(((zx m.1 x.1).1,nN (ys++jQ m.2.1) 127 2,()),kA):=by
 rw[zwg]
 unfold Y0
 rw[zT (zr2.2 h.map),Bool.not_true,zD,zT (Qj.2 h.msg),Bool.not_true,zD,h.head,h.u6]
 rfl
section
variable {m:Map} {a b:zg} {x:bK} {ys:List bh}
theorem cr.jC(h:cr m a b x ys):(∀v∈x.2.1,bq a v.1=true/\bI (aY a v.1) v.2.1=0)/\jY x.2.1/\∀v∈x.2.1,0<v.1:=Fa.1 h.msg.jC
theorem cr.ris(h:cr m a b x ys):jY (nN (ys++jQ m.2.1) 127 2):=by
 obtain⟨g1,g2,g3⟩:=h.jC
 refine zdw ?_ 127 2 (by omega)
 rw[zj4,zj5 h.map]
 exact zv0 (LB h.map g2 (fun v hv=>(g1 v hv).1) h.u6)
theorem cr.mem(h:cr m a b x ys)(v:bh):v∈nN (ys++jQ m.2.1) 127 2↔v∈jQ m.2.1\/(v∈ys/\v.1≠0):=by
 rw[SU,List.mem_append]
 have hr:=LC h.map h.u6
 constructor
 ·rintro⟨h1|h1,h2,h3⟩
  ·exact .inr ⟨h1,by omega⟩
  ·exact .inl h1
 ·rintro(h1|⟨h1,h2⟩)
  ·have:=Fg h.map.okB (hr v (List.mem_append_left _ h1))
   exact⟨.inr h1,by omega,by omega⟩
  ·have:=Fg h.map.okB (hr v (List.mem_append_right _ (G5.2 ⟨h1,h2⟩)))
   exact⟨.inl h1,by omega,by omega⟩
theorem cr.valid(h:cr m a b x ys)(hm:dM m)(hx:eU x):∀v∈nN (ys++jQ m.2.1) 127 2,bq b v.1=true/\v.2.1.size<=1099511627776/\bI (aY b v.1) v.2.1=0:=by
 intro v hv
 obtain⟨g1,g2,g3⟩:=h.jC
 rcases(h.mem v).1 hv with hv|⟨hv,hz⟩
 ·obtain⟨r,hr,k,rfl⟩:=z85.1 hv
  have hc:=(S3 (h.map.rules r hr)).2.2.2
  unfold kl at hc
  rw[zF (by omega:¬r.1=1),zT k,zD,zC] at hc
  exact⟨h.map.to hr (by omega),(hm.rules r hr).text,hc⟩
 ·obtain⟨w,hw,q,hf,h0,rfl⟩:=PT h.u6 v hv
  obtain⟨b1,b2⟩:=P5 h0 hz
  obtain⟨qm,qf⟩:=G1 hf
  have hwt:=hx.sA w hw
  have:=(acB (r:=q) (a:=a) (b:=b) hwt (hm.rules q qm) (h.map.rules q qm) h.map.okB (fun _=>by rw[qf];exact(g1 w hw).2)).2 h0
  obtain⟨e1,e2,e3⟩:=this.2 b1
  rw[b2]
  exact⟨e2,acA hwt (hm.rules q qm),e3⟩
theorem ahL{t:ByteArray}{v:Int}(h:iI t v=true):fR t=true/\gB t=v:=by
 unfold iI at h
 rw[Bool.and_eq_true,decide_eq_true_eq] at h
 refine⟨h.1,?_⟩
 unfold gB
 rw[h.1];exact h.2
theorem cr.uJ(h:cr m a b x ys):fR (zx m.1 x.1).1=true/\gB (zx m.1 x.1).1=b.2.1:=by
 obtain⟨p,hp,_,e⟩:=zdq h.head
 have ht:=h.map.typed p hp
 unfold nT at ht
 rw[Bool.and_eq_true,Bool.and_eq_true] at ht
 rw[e]
 exact ahL ht.2.1
theorem cr.out(h:cr m a b x ys)(hm:dM m)(hx:eU x):kH b ((zx m.1 x.1).1,nN (ys++jQ m.2.1) 127 2,()):=by
 have hv:=h.valid hm hx
 refine⟨h.map.sb,h.uJ.1,h.uJ.2,Fa.2 ⟨fun v hm=>⟨(hv v hm).1,(hv v hm).2.2⟩,h.ris,fun v hm=> ?_⟩⟩
 have:=Fg h.map.okB (hv v hm).1
 omega
end
theorem DW:∀{l:List bh} {lo:Int},jY l->(∀v∈l,lo<v.1/\v.1<=128)->(l.length:Int)<=max 0 (128-lo)
 | [],lo,_,_=>by simp;omega
 |x::r,lo,h,hr=>by
  have h:=List.pairwise_cons.1 h
  have hx:=hr x List.mem_cons_self
  have:=DW (l:=r) (lo:=x.1) h.2 (fun v hv=>⟨h.1 v hv,(hr v (List.mem_cons_of_mem _ hv)).2⟩)
  simp only[List.length_cons]
  omega
theorem cr.ok{m:Map}{a b:zg}{x:bK}{ys:List bh}(h:cr m a b x ys)(hm:dM m)(hx:eU x):eU ((zx m.1 x.1).1,nN (ys++jQ m.2.1) 127 2,()):=by
 have hv:=h.valid hm hx
 refine⟨?_,?_,fun v jh=>(hv v jh).2.1⟩
 ·have:=(rS.1 h.uJ.1).1
  show(zx m.1 x.1).1.size<=_
  omega
 ·have:=DW (lo:=0) h.ris (fun v jh=>by have:=Fg h.map.okB (hv v jh).1;omega)
  show(nN (ys++jQ m.2.1) 127 2).length<=_
  omega
def Kc(m:Map)(b:zg)(v:bh):Prop:=∃q,fa m v.1=some q/\(gC q b v.2.1).2=0
theorem SY{m:Map}{b:zg}:∀{l:List bh},(∃ys,kz m b l= .inr ys)↔∀v∈l,Kc m b v
 | []=>⟨fun _ v hv=>(by cases hv),fun _=>⟨[],rfl⟩⟩
 |v::r=>by
  rw[kz]
  constructor
  ·rintro⟨ys,h⟩ w hw
   cases hf:fa m v.1 with
   |none=>rw[hf] at h;cases h
   |some q=>
    rw[hf] at h
    dsimp only at h
    cases hz:decide ((gC q b v.2.1).2=0) with
    |false=>rw[hz] at h;cases h
    |true=>
     rw[hz,Bool.not_true,zD] at h
     rcases List.mem_cons.1 hw with rfl|hw
     ·exact⟨q,hf,of_decide_eq_true hz⟩
     ·cases hr:kz m b r with
      |inl g=>rw[hr] at h;cases h
      |inr zs=>exact SY.1 ⟨zs,hr⟩ w hw
  ·intro h
   obtain⟨q,hf,hz⟩:=h v List.mem_cons_self
   obtain⟨zs,hr⟩:=SY.2 fun w hw=>h w (List.mem_cons_of_mem _ hw)
   rw[hf,hr]
   dsimp only
   rw[zT hz]
   exact⟨_,rfl⟩
theorem cr.part{m:Map}{a b:zg}{x:bK}{ys:List bh}(h:cr m a b x ys){l:List bh}(hl:List.Sublist l x.2.1):∃zs,cr m a b (x.1,l,()) zs:=by
 obtain⟨g1,g2,g3⟩:=h.jC
 obtain⟨zs,hz⟩:=SY.2 fun v hv=>SY.1 ⟨ys,h.u6⟩ v (hl.subset hv)
 exact⟨zs,h.map,⟨h.msg.iE,h.msg.right,h.msg.ver,Fa.2 ⟨fun v hv=>g1 v (hl.subset hv),g2.sublist hl,fun v hv=>g3 v (hl.subset hv)⟩⟩,h.head,hz⟩
end bm

namespace bm
open Go.IntKind renaming wrap->zW,i64->zI,u8->zU
open Go Go.Ref
def iY(ae:Int)(m:ByteArray):ByteArray:=if ae=1 then m else(qM m).1
def tW(s:zg):List bh->ByteArray
 | []=>bs []
 |v::r=>(BC s.1 (aY s v.1) v.2.1).1++tW s r
def jD(m:bK):List Int:=m.2.1.map fun v=>v.1
def jA(s:zg)(m:bK):ByteArray:=iY s.1 m.1++(fW s.1 (dK (jD m)) (dL (jD m))).1++tW s m.2.1
theorem agY(m:bK)(h:m.2.1.length<=1000000):tc m=some ((dK (jD m):Int),(dL (jD m):Int),()):=by
 unfold tc UZ
 dsimp only
 have key:∀(l:List bh) (i:Int) (p:List Int),bk (fun i (x:bh) (b:vS) K=>(yA b x.1).bind fun r1=>K r1) (fun b=>some (((0:Int),(0:Int),()),b)) l i ((dK p:Int),(dL p:Int),())=some (((0:Int),(0:Int),()),((dK (p++l.map fun v=>v.1):Int),(dL (p++l.map fun v=>v.1):Int),())):=by
  intro l
  induction l with
  |nil=>intro i p;rw[List.map_nil,List.append_nil];rfl
  |cons x r ih=>
   intro i p
   rw[bk,OA _ _ (vh p) (vi p),zc]
   have e1:dK p|||iM x.1=dK (p++ [x.1]):=by unfold dK;rw[List.foldl_append];rfl
   have e2:dL p|||iN x.1=dL (p++ [x.1]):=by unfold dL;rw[List.foldl_append];rfl
   rw[e1,e2]
   dsimp only
   rw[ih (i+1) (p++ [x.1]),List.map_cons,List.append_assoc];rfl
 have:=cw nx m.2.1 (by rw[zi];omega) (fun i (x:bh) (b:vS) K=>(yA b x.1).bind fun r1=>K r1) (fun b=>some (((0:Int),(0:Int),()),b)) (fun k i b=>QM k m.2.1 (m.2.1.length:Int) i ((0:Int),(0:Int),()) b) (fun k i b=>rfl) ((0:Int),(0:Int),())
 rw[this]
 have k2:=key m.2.1 0 []
 rw[show dK []=0 from rfl,show dL []=0 from rfl] at k2
 rw[show((0:Nat):Int)=0 from rfl] at k2
 rw[k2];rfl
theorem ahH(ae:Int)(m:ByteArray):(iY ae m).size<=m.size+500:=by
 unfold iY
 split
 ·omega
 ·have:=zhx m;omega
theorem adr(ae:Int)(h l:Nat):(fW ae h l).1.size<=32:=by
 have hz:hJ ae<=16:=by unfold hJ;split<;>omega
 unfold fW
 split
 ·dsimp only
  split
  ·rw[zid];omega
  ·rw[Bu,zid,zid];omega
 ·exact Nat.zero_le _
theorem ab8(ae:Int)(s:Spec)(t:ByteArray):(BC ae s t).1.size<=2*t.size+1000:=by
 unfold BC
 split
 ·exact Nat.zero_le _
 ·split
  ·exact Nat.zero_le _
  ·dsimp only
   rw[Bu]
   have:=MD ae s.2.2.1 t.size
   have:=LO (df ae s.2.1) t
   omega
structure pR(m:bK):Prop where
 uJ:m.1.size<=1000
 len:m.2.1.length<=1000
 sA:∀v∈m.2.1,v.2.1.size<=1000
theorem pR.ok{m:bK}(h:pR m):eU m:=⟨by have:=h.uJ;omega,by have:=h.len;omega,fun v hv=>by have:=h.sA v hv;omega⟩
theorem adS{s:zg}{m:bK}(hm:eU m)(h:kH s m):pR m:=by
 have ho:=(Bp s).1 h.iE
 obtain⟨f1,f2,f3⟩:=Fa.1 h.jC
 refine⟨by have:=(rS.1 h.right).1;omega,?_,fun v hv=> ?_⟩
 ·have:=DW (lo:=0) f2 (fun v hv=>by
   have:=TG (Tn ho (f1 v hv).1)
   have e:=(TC (f1 v hv).1).2
   rw[e] at this
   exact⟨by omega,by omega⟩)
  omega
 ·obtain⟨v1,v2,v3,_,_⟩:=(Qn _ _ (hm.sA v hv)).1 (f1 v hv).2
  have:=WG v1
  omega
theorem D1{x o:ByteArray}(h:o.size+x.size<=140737488355328):jW x o=some (o++x):=by
 unfold jW Wa SM
 rw[zT h,zC,zc]
theorem Ni(s:zg)(hs:s.2.2.1.length<=maxLen)(f:bZ):∀(l:List bh) (i:Int) (o:ByteArray),(∀v∈l,v.2.1.size<=1000)->o.size+3000*l.length<=100000000->
 bk (fun i (x:bh) (o:ByteArray) K=>(fS s x.1).bind fun r7=>(BP s.1 r7.1 x.2.1).bind fun r8=>(jW r8.1 o).bind fun r9=>K r9) (fun o=>some (f,o)) l i o=some (f,o++tW s l)
 | [],i,o,_,_=>by rw[tW,OD];rfl
 |x::r,i,o,h,ho=>by
  have hx:=h x List.mem_cons_self
  have hc:=ab8 s.1 (aY s x.1) x.2.1
  rw[List.length_cons] at ho
  rw[bk,Br s _ hs,zc,adt _ _ _ (by omega),zc]
  dsimp only
  rw[D1 (by omega),zc]
  rw[Ni s hs f r (i+1) _ (fun v hv=>h v (List.mem_cons_of_mem _ hv)) (by rw[Bu];omega),tW,ByteArray.append_assoc]
theorem ak6(ae:Int)(m:ByteArray)(hm:fR m=true)(hs:ae=1\/ae=2):∃k,tJ ae m=some (iY ae m,k):=by
 have h4:=(rS.1 hm).1
 unfold tJ Wb iY
 rw[zb7 m (by rw[zi];omega),zc,hm,Bool.not_true,zD]
 rcases hs with rfl|rfl
 ·exact⟨true,rfl⟩
 ·rw[zF (by decide),zD,zT rfl,zC,zhw m (by rw[zi];omega),zc,if_neg (by decide)]
  exact⟨_,rfl⟩
def qF(s:zg)(m:bK):ByteArray×bZ:=if(gI s m).1=0 then(jA s m,kA) else(bs [],gI s m)
theorem Lz(s:zg)(m:bK)(hs:s.2.2.1.length<=maxLen)(h:eU m):n8 s m=some (qF s m):=by
 unfold n8 V9 qF
 rw[zp2 s m hs h,zc]
 by_cases h0:(gI s m).1=0
 case neg=>rw[zF h0,if_neg h0];rfl
 have hm:=Qj.1 h0
 have GJ:=adS h hm
 have ho:=(Bp s).1 hm.iE
 obtain⟨k,hk⟩:=ak6 s.1 m.1 hm.right ho.1
 have ht:=ahH s.1 m.1
 have hb:=adr s.1 (dK (jD m)) (dL (jD m))
 have:=GJ.uJ
 have:=GJ.len
 rw[zT h0,Bool.not_true,zD,if_pos h0,hk,zc,agY m (by omega)]
 have w1:jW (iY s.1 m.1) (bs [])=some (iY s.1 m.1):=by
  rw[D1 (by show 0+_<=_;omega),EY]
 have w2:jW (fW s.1 (dK (jD m)) (dL (jD m))).1 (iY s.1 m.1)=some (iY s.1 m.1++(fW s.1 (dK (jD m)) (dL (jD m))).1):=D1 (by omega)
 dsimp only
 rw[w1,zc,zc,ajS _ _ _ (vh _) (vi _),zc,w2,zc]
 have hl:=cw nx m.2.1 (by rw[zi];omega) (fun i (x:bh) (o:ByteArray) K=>(fS s x.1).bind fun r7=>(BP s.1 r7.1 x.2.1).bind fun r8=>(jW r8.1 o).bind fun r9=>K r9) (fun o=>some (kA,o)) (fun k i o=>Rb k m.2.1 (m.2.1.length:Int) i s kA o) (fun k i o=>rfl) (iY s.1 m.1++(fW s.1 (dK (jD m)) (dL (jD m))).1)
 rw[hl,Ni s hs _ m.2.1 0 _ GJ.sA (by rw[Bu];omega)]
 rfl
end bm

set_option maxRecDepth 10000
namespace bm
open Go.IntKind renaming wrap->zW,i64->zI,u8->zU
open Go Go.Ref
def iH(ae:Int):Nat:=if ae=2 then 2 else 4
def iZ(ae:Int)(b:ByteArray):ByteArray:=if ae=2 then(kV (b.extract 0 2) 4).1 else b.extract 0 4
def oP(s:zg)(b:ByteArray):Sum Int mS:=
 if b.size<iH s.1 then .inl 2 else if fR (iZ s.1 b)=true/\gB (iZ s.1 b)=s.2.1 then .inr (iZ s.1 b,iH s.1) else .inl 7
def kK(s:zg)(b:ByteArray):List Int->Nat->List bh->List bh×bZ
 | [],a,o=>(o,if a<b.size then(12,129,()) else kA)
 |no::r,a,o=>if bq s no=false then(o,(9,no,())) else if¬(qK s.1 (aY s no) b a).2.2=0 then(o,((qK s.1 (aY s no) b a).2.2,no,())) else kK s b r (qK s.1 (aY s no) b a).2.1.toNat (o++ [(no,(qK s.1 (aY s no) b a).1,())])
def xh(s:zg)(b t:ByteArray)(g:Nat×Nat×Int×Int):bK×bZ:=
 if¬g.2.2.2=0 then((t,[],()),(g.2.2.2,1,())) else((t,(kK s b (elems g.1 g.2.1) g.2.2.1.toNat []).1,()),(kK s b (elems g.1 g.2.1) g.2.2.1.toNat []).2)
def J9(s:zg)(b:ByteArray):Sum Int mS->bK×bZ
 | .inl e=>(dy,(e,0,()))
 | .inr q=>xh s b q.1 (cU s.1 b q.2)
def mY(s:zg)(b:ByteArray):bK×bZ:=if¬(hM s).1=0 then(dy,(1,-1,())) else J9 s b (oP s b)
def C3:Sum Int mS->ByteArray×Int×Int
 | .inl e=>(bs [],0,e)
 | .inr q=>(q.1,(q.2:Int),0)
theorem ahI(ae:Int)(b:ByteArray):(iZ ae b).size<=2000:=by
 unfold iZ
 split
 ·generalize hg:kV (b.extract 0 2) 4=g
  obtain⟨t,e,i⟩:=g
  have:=zau hg
  dsimp only;omega
 ·rw[ByteArray.size_extract];omega
theorem MQ(s:zg)(t:ByteArray)(z:Nat)(ht:t.size<=2000):((ju t).bind fun r3=>(bif(!r3.2) then some (bs [],(0:Int),(7:Int)) else(bif(!(decide (r3.1=s.2.1))) then some (bs [],(0:Int),(7:Int)) else some (t,(z:Int),(0:Int)))))=some (C3 (if fR t=true/\gB t=s.2.1 then .inr (t,z) else .inl 7)):=by
 rw[SS t (by rw[zi];omega),zc]
 dsimp only
 cases hr:fR t with
 |false=>rfl
 |true=>
  rw[Bool.not_true,zD]
  by_cases hv:gB t=s.2.1
  ·rw[zT hv,if_pos ⟨rfl,hv⟩];rfl
  ·rw[zF hv,if_neg (fun h=>hv h.2)];rfl
theorem ahJ(s:zg)(b:ByteArray)(hb:b.size<=1099511627776):tD s b=some (C3 (oP s b)):=by
 have h4:Q2 4=some 2:=by have:=PW 4 (by decide) (by decide);exact this
 have e0:((2:Int)).toNat=2:=rfl
 have e4:((4:Int)).toNat=4:=rfl
 have kD:=ahI s.1 b
 unfold tD VT oP
 by_cases h2:s.1=2
 ·have hz:iH 2=2:=rfl
  have hT:iZ 2 b=(kV (b.extract 0 2) 4).1:=rfl
  rw[h2] at kD
  simp only[h2,decide_true,zC,h4,zc,e0]
  rw[hz]
  by_cases hc:b.size<2
  ·rw[zT (by omega),if_pos hc];rfl
  ·rw[zF (by omega),zD,zT (by decide),zC,zT (by omega),zC,if_neg hc,zhv _ _ (by rw[ByteArray.size_extract];omega),zc,<-hT]
   exact MQ s (iZ 2 b) 2 kD
 ·have hz:iH s.1=4:=by unfold iH;rw[if_neg h2]
  have hT:iZ s.1 b=b.extract 0 4:=by unfold iZ;rw[if_neg h2]
  simp only[h2,decide_false,zD,e4]
  rw[hz]
  by_cases hc:b.size<4
  ·rw[zT (by omega),if_pos hc];rfl
  ·rw[zF (by omega),zD,zT (by omega),zC,if_neg hc,<-hT]
   exact MQ s (iZ s.1 b) 4 kD
theorem acY{h l:Nat}{pre r:List Int}{no:Int}(he:elems h l=pre++no::r):iC h l no=r.headD 0:=by
 have hs:=zic h l
 rw[he] at hs
 have hp:=List.pairwise_append.1 hs
 have hq:=List.pairwise_cons.1 hp.2.1
 unfold iC
 rw[he,List.filter_append,List.filter_eq_nil_iff.2 (fun x hx=>by have:=hp.2.2 x hx no List.mem_cons_self;simp;omega),List.nil_append,List.filter_cons_of_neg (by simp),List.filter_eq_self.2 (fun x hx=>by have:=hq.1 x hx;simp;omega)]
theorem adT(h l:Nat):iC h l 0=(elems h l).headD 0:=by
 unfold iC
 rw[List.filter_eq_self.2 (fun x hx=>by have:=zil ((P9 h l x).1 hx);simp;omega)]
theorem zqy(h l:Nat):(elems h l).length<=128:=by
 unfold elems
 exact Nat.le_trans (List.length_filter_le _ _) (by rw[akI];exact Nat.le_refl _)
theorem agn{ae:Int}{s:Spec}{b:ByteArray}{a:Nat}(hb:b.size<=1099511627776)(h:(qK ae s b a).2.2=0):(((qK ae s b a).2.1.toNat:Nat):Int)=(qK ae s b a).2.1:=by
 generalize hg:qK ae s b a=g at h⊢
 obtain⟨t,z,e⟩:=g
 dsimp only at h⊢
 subst h
 have:=(zv4 hb hg).2.2.1
 omega
def Kb(b:ByteArray)(e:Sum (ByteArray×Int×bK×bZ×bK) (ByteArray×Int×bK×bZ×bK)):Option (bK×bZ):=Sum.elim (fun we=>some (we.2.2.1,we.2.2.2.1)) (fun we=>bif(decide (we.2.1<(we.1.size:Int))) then some (we.2.2.2.2,((12:Int),(129:Int),())) else some (we.2.2.2.2,kA)) e
theorem zpc(s:zg)(hs:s.2.2.1.length<=maxLen)(b t:ByteArray)(hb:b.size<=1099511627776)(h l:Nat)(hh:h<dh)(hl:l<dh):∀(r pre:List Int) (k a:Nat) (o:List bh),elems h l=pre++r->o.length<=pre.length->r.length<k->
 (FQ k b (a:Int) (r.headD 0) s dy kA (t,o,()) ((h:Int),(l:Int),())).bind (Kb b)=some ((t,(kK s b r a o).1,()),(kK s b r a o).2)
 |r,pre,0,a,o,_,_,hk=>by omega
 | [],pre,k+1,a,o,he,ho,hk=>by
   unfold FQ Ra kK
   rw[show([]:List Int).headD 0=0 from rfl,zT (p:=(0:Int)=0) rfl,Bool.not_true,zD,zc]
   unfold Kb
   rw[Sum.elim_inr]
   dsimp only
   by_cases hc:a<b.size
   ·rw[zT (by omega),if_pos hc];rfl
   ·rw[zF (by omega),if_neg hc];rfl
 |no::r,pre,k+1,a,o,he,ho,hk=>by
  have cE:no∈elems h l:=by rw[he];exact List.mem_append_right _ List.mem_cons_self
  have nJ:=zil ((P9 h l no).1 cE)
  have hlen:=zqy h l
  rw[he,List.length_append,List.length_cons] at hlen
  rw[List.length_cons] at hk
  unfold FQ Ra kK
  rw[show(no::r).headD 0=no from rfl,zF (by omega:¬no=0),Bool.not_false,zC,Br s _ hs,zc]
  dsimp only
  cases hf:bq s no with
  |false=>rfl
  |true=>
   rw[Bool.not_true,zD,if_neg (by decide),ads _ _ _ _ hb,zc]
   by_cases hz:(qK s.1 (aY s no) b a).2.2=0
   case neg=>rw[zF hz,if_pos hz];rfl
   rw[zT hz,Bool.not_true,zD,if_neg (fun h=>h hz),zT (by simp only[List.length_singleton];omega),zC,N4 h l hh hl no (by omega) (by omega),zc,acY he,<-agn hb hz]
   exact zpc s hs b t hb h l hh hl r (pre++ [no]) k _ _ (by rw[he,List.append_assoc];rfl) (by rw[List.length_append,List.length_append,List.length_singleton,List.length_singleton];omega) (by omega)
theorem ajR{ae:Int}{b:ByteArray}{a:Nat}(h:(cU ae b a).2.2.2=0):(cU ae b a).1<dh/\(cU ae b a).2.1<dh/\(((cU ae b a).2.2.1.toNat:Nat):Int)=(cU ae b a).2.2.1:=by
 generalize hg:cU ae b a=g at h⊢
 obtain⟨h',l,z,e⟩:=g
 dsimp only at h⊢
 subst h
 obtain⟨_,q1,q2,q3,_⟩:=ajT hg
 exact⟨by show h'<18446744073709551616;omega,q2,by omega⟩
theorem aej(s:zg)(b:ByteArray)(hs:s.2.2.1.length<=maxLen)(hb:b.size<=1099511627776):q7 s b=some (mY s b):=by
 unfold q7 VS mY
 rw[Qb s hs,zc]
 by_cases h0:(hM s).1=0
 case neg=>rw[zF h0,if_pos h0];rfl
 rw[zT h0,Bool.not_true,zD,if_neg (fun h=>h h0),ahJ s b hb,zc]
 cases ht:oP s b with
 |inl e=>
  have he:e≠0:=by
   unfold oP at ht
   split at ht
   ·cases ht;decide
   ·split at ht
    ·cases ht
    ·cases ht;decide
  exact Pv he
 |inr q=>
  obtain⟨t,z⟩:=q
  refine(Pw (p:=(0:Int)=0) rfl).trans ?_
  dsimp only[C3,J9,xh]
  rw[ajQ _ _ _ hb,zc]
  by_cases he:(cU s.1 b z).2.2.2=0
  case neg=>rw[if_pos he];exact Pv he
  rw[if_neg (fun h=>h he)]
  refine(Pw he).trans ?_
  obtain⟨q1,q2,q3⟩:=ajR he
  dsimp only[bmR]
  rw[N4 _ _ q1 q2 0 (by decide) (by decide),zc,adT,<-q3]
  exact zpc s hs b t hb _ _ q1 q2 (elems (cU s.1 b z).1 (cU s.1 b z).2.1) [] ag _ [] rfl (Nat.le_refl _) (by have:=zqy (cU s.1 b z).1 (cU s.1 b z).2.1;rw[zu];omega)
end bm

set_option maxRecDepth 10000
namespace bm
open Go.IntKind renaming wrap->zW,i64->zI,u8->zU
open Go Go.Ref
theorem anb{s:zg}(h:iL s){no:Int}(hh:bq s no=true):2<=no/\no<=128:=by
 have:=TG (Tn h hh)
 rw[(TC hh).2] at this
 exact this
theorem ahG{s:zg}(hs:s.1=1\/s.1=2){m y:ByteArray}(hm:fR m=true):iZ s.1 (iY s.1 m++y)=m/\(iY s.1 m).size=iH s.1:=by
 obtain⟨h4,hd⟩:=rS.1 hm
 have e0:∀(p:ByteArray) (k:Nat),p.size=k->(p++y).extract 0 k=p:=fun p k hk=>by
  have:=amX (bs []) p y
  rw[EY,show(bs []).size=0 from rfl,Nat.zero_add,hk] at this
  exact this
 unfold iZ iY iH
 rcases hs with hs|hs
 ·have n2:¬s.1=2:=by omega
  rw[if_neg n2,if_pos hs,if_neg n2]
  exact⟨e0 m 4 h4,h4⟩
 ·have n1:¬s.1=1:=by omega
  have hz:(qM m).1.size=2:=by rw[zaw (by omega) hd,h4]
  rw[if_pos hs,if_neg n1,if_pos hs,e0 _ 2 hz]
  have:=ajM (s:=m) (by omega) hd
  rw[h4] at this
  rw[show(4:Int)=((4:Nat):Int) from rfl,this]
  exact⟨rfl,hz⟩
abbrev aX:=zg×Map×List Int×List bh×Unit
abbrev Be:bh:=(0,bs [],())
def kb(s:zg)(prev:List Int)(no:Int):Int:=bif !bq s no then 9 else bif decide (no=39) then 1 else bif decide (no∈prev) then 10 else 0
def gb(s:zg):List Int->List Int->Int->Option (Int×Int)
 |_,[],_=>none
 |prev,no::r,i=>bif decide (kb s prev no=0) then gb s (prev++ [no]) r (i+1) else some (kb s prev no,i)
def im(a:Spec)(prev:List Int)(c:bh):Int:=bif decide (c.1<0) then 1 else bif decide (16<c.1) then 1 else bif decide (c.1∈prev) then 10 else bI a c.2.1
def eY(a:Spec):List Int->List bh->Int->Option (Int×Int)
 |_,[],_=>none
 |prev,c::r,i=>bif decide (im a prev c=0) then eY a (prev++ [c.1]) r (i+1) else some (im a prev c,i)
def fM(s:aX):Int×Int×Int:=
 bif !decide ((hM s.1).1=0) then(1,1,0) else bif !bq s.1 39 then(9,1,1) else match gb s.1 [] s.2.2.1 0 with
  |some e=>(e.1,2,e.2)
  |none=>match eY (aY s.1 39) [] s.2.2.2.1 0 with
   |some e=>(e.1,3,e.2)
   |none=>bif decide ((0:Int)∈s.2.2.2.1.map fun c=>c.1) then(0,0,0) else(15,3,(s.2.2.2.1.length:Int))
structure cZ(s:aX):Prop where
 iE:s.1.2.2.1.length<=maxLen
 oo:s.2.2.1.length<=1000000
 fY:s.2.2.2.1.length<=1000000
 sA:∀c∈s.2.2.2.1,c.2.1.size<=1099511627776
theorem Nv(no:Int):∀(l:List Int) (i:Int),0<=i->∃r,bk (fun i (x:Int) (s:Unit) K=>bif decide (no=x) then some (Sum.inl i) else K s) (fun _=>some (Sum.inr ())) l i ()=some r/\(no∈l->∃j,r= .inl j/\0<=j)/\(no∉l->r= .inr ())
 | [],i,_=>⟨_,rfl,fun h=>(by cases h),fun _=>rfl⟩
 |x::l,i,h=>by
  rw[bk]
  by_cases e:no=x
  ·rw[zT e,zC]
   exact⟨_,rfl,fun _=>⟨i,rfl,h⟩,fun hn=>absurd (by rw[e];exact List.mem_cons_self) hn⟩
  ·rw[zF e,zD]
   obtain⟨r,h1,h2,h3⟩:=Nv no l (i+1) (by omega)
   exact⟨r,h1,fun hm=>h2 ((List.mem_cons.1 hm).resolve_left e),fun hn=>h3 fun hm=>hn (List.mem_cons_of_mem _ hm)⟩
theorem ab0(l:List Int)(no:Int)(h:l.length<=maxLen):tz l no=some (decide (no∈l)):=by
 unfold tz VG vZ VM
 have:=cw (0:Int) l h (fun i (x:Int) (s:Unit) K=>bif decide (no=x) then some (Sum.inl i) else K s) (fun _=>some (Sum.inr ()))
  (fun k i s=>QZ k l no (l.length:Int) i) (fun k i s=>rfl) ()
 dsimp only
 obtain⟨r,h1,h2,h3⟩:=Nv no l 0 (Int.le_refl _)
 rw[this,h1,zc]
 by_cases hm:no∈l
 ·obtain⟨j,rfl,hj⟩:=h2 hm
  rw[zT hm]
  show some (decide (0<=j))=_
  rw[zT hj]
 ·rw[h3 hm,zF hm];rfl
theorem Nw(c:bh):∀(l:List bh) (i:Int),0<=i->∃r,bk (fun i (x:bh) (s:bh) K=>((qY x s).bind fun r1=>(bif r1.1 then some (Sum.inl (i,r1.2)) else K r1.2))) (fun s=>some (Sum.inr s)) l i c=some r/\(c.1∈l.map (fun v=>v.1)->∃j,r= .inl (j,c)/\0<=j)/\(c.1∉l.map (fun v=>v.1)->r= .inr c)
 | [],i,_=>⟨_,rfl,fun h=>(by cases h),fun _=>rfl⟩
 |x::l,i,h=>by
  rw[bk]
  unfold qY Vo
  rw[zc]
  dsimp only
  rw[List.map_cons]
  by_cases e:x.1=c.1
  ·rw[zT e,zC]
   exact⟨_,rfl,fun _=>⟨i,rfl,h⟩,fun hn=>absurd (by rw[e];exact List.mem_cons_self) hn⟩
  ·rw[zF e,zD]
   obtain⟨r,h1,h2,h3⟩:=Nw c l (i+1) (by omega)
   exact⟨r,h1,fun hm=>h2 ((List.mem_cons.1 hm).resolve_left fun e2=>e e2.symm),fun hn=>h3 fun hm=>hn (List.mem_cons_of_mem _ hm)⟩
theorem ab1(l:List bh)(c:bh)(h:l.length<=maxLen):tw l c=some (decide (c.1∈l.map fun v=>v.1),c):=by
 unfold tw VF vY VI
 have:=cw Be l h (fun i (x:bh) (s:bh) K=>((qY x s).bind fun r1=>(bif r1.1 then some (Sum.inl (i,r1.2)) else K r1.2))) (fun s=>some (Sum.inr s))
  (fun k i s=>QX k l (l.length:Int) i s) (fun k i s=>rfl) c
 dsimp only
 obtain⟨r,h1,h2,h3⟩:=Nw c l 0 (Int.le_refl _)
 rw[this,h1,zc]
 by_cases hm:c.1∈l.map fun v=>v.1
 ·obtain⟨j,rfl,hj⟩:=h2 hm
  rw[zT hm]
  show some (decide (0<=j),c)=_
  rw[zT hj]
 ·rw[h3 hm,zF hm];rfl
theorem Hx{α:Type}{l:List α}{j:Nat}(h:j<l.length)(d:α):l.getD j d=l[j]:=by rw[List.getD_eq_getElem?_getD,List.getElem?_eq_getElem h];rfl
theorem amU(s:aX)(h:cZ s){j:Nat}(hj:j<s.2.2.1.length):tn s (j:Int)=some (kb s.1 (s.2.2.1.take j) s.2.2.1[j]):=by
 have he:=h.oo
 unfold tn Vp kb
 rw[zh hj,Int.toNat_natCast,Hx hj,Br s.1 _ h.iE,zc]
 cases bq s.1 s.2.2.1[j] with
 |false=>rfl
 |true=>
  dsimp only
  rw[Bool.not_true,zD,zD]
  cases decide (s.2.2.1[j]=39) with
  |true=>rfl
  |false=>
   rw[zD,zD,zT (by omega),zC,zT (by omega),zC,List.drop_zero,ab0 _ _ (by rw[List.length_take,zi];omega),zc]
   cases decide (s.2.2.1[j]∈s.2.2.1.take j)<;>rfl
theorem amR(s:aX)(h:cZ s)(a:Spec){j:Nat}(hj:j<s.2.2.2.1.length):tm s (j:Int) a=some (im a ((s.2.2.2.1.take j).map fun c=>c.1) s.2.2.2.1[j]):=by
 have he:=h.fY
 have ht:=h.sA _ (List.getElem_mem hj)
 unfold tm Vn im
 rw[zh hj,Int.toNat_natCast,Hx hj]
 cases decide (s.2.2.2.1[j].1<0) with
 |true=>rfl
 |false=>
  rw[zD,zD]
  cases decide (16<s.2.2.2.1[j].1) with
  |true=>rfl
  |false=>
   rw[zD,zD,zT (by omega),zC,zT (by omega),zC,List.drop_zero,ab1 _ _ (by rw[List.length_take,zi];omega),zc]
   dsimp only
   cases decide (s.2.2.2.1[j].1∈(s.2.2.2.1.take j).map fun c=>c.1) with
   |true=>rfl
   |false=>rw[zD,zD,x9 _ _ ht];rfl
theorem L2(s:aX)(h:cZ s)(sp:Spec):∀(n j k:Nat),j+n=s.2.2.1.length->n<k->FN k (s.2.2.1.length:Int) (j:Int) s sp=some (match gb s.1 (s.2.2.1.take j) (s.2.2.1.drop j) j with
 |some e=> .inl (e.1,2,e.2,s,sp)
 |none=> .inr (s,sp))
 |n,j,0,_,hk=>by omega
 |0,j,k+1,hj,hk=>by
  unfold FN QR
  rw[zF (by omega),zD,List.drop_eq_nil_of_le (by omega)];rfl
 |n+1,j,k+1,hj,hk=>by
  have aq:j<s.2.2.1.length:=by omega
  have he:=h.oo
  unfold FN QR
  rw[zT (by omega),zC,amU s h aq,zc,List.drop_eq_getElem_cons aq,gb]
  cases decide (kb s.1 (s.2.2.1.take j) s.2.2.1[j]=0) with
  |false=>rfl
  |true=>
   rw[Bool.not_true,zD,zC]
   dsimp only
   rw[zr (by omega),List.take_append_getElem aq]
   exact L2 s h sp n (j+1) k (by omega) (by omega)
def lN(t:Bool):List bh->Bool
 | []=>t
 |c::r=>lN (t||decide (c.1=0)) r
theorem N1(t:Bool):∀l:List bh,lN t l=(t||decide ((0:Int)∈l.map fun c=>c.1))
 | []=>by simp [lN]
 |c::r=>by
  rw[lN,N1 _ r,List.map_cons,Bool.or_assoc]
  congr 1
  rw[<-Bool.decide_or]
  exact decide_eq_decide.2 ⟨fun h=>h.elim (fun e=>by rw[<-e];exact List.mem_cons_self) (List.mem_cons_of_mem _),fun h=>(List.mem_cons.1 h).imp (fun e=>e.symm) id⟩
theorem zi5(s:aX)(h:cZ s)(a:Spec):∀(n j k:Nat) (t:Bool),j+n=s.2.2.2.1.length->n<k->∃t',FO k t s.2.2.2.1 (s.2.2.2.1.length:Int) (j:Int) s a=some (match eY a ((s.2.2.2.1.take j).map fun c=>c.1) (s.2.2.2.1.drop j) j with
 |some e=> .inl (e.1,3,e.2,t',s)
 |none=> .inr (lN t (s.2.2.2.1.drop j),s))
 |n,j,0,t,_,hk=>by omega
 |0,j,k+1,t,hj,hk=>by
  unfold FO QS
  rw[zF (by omega),zD,List.drop_eq_nil_of_le (by omega)]
  exact⟨t,rfl⟩
 |n+1,j,k+1,t,hj,hk=>by
  have aq:j<s.2.2.2.1.length:=by omega
  have he:=h.fY
  unfold FO QS
  rw[zT (by omega),zC,zh aq,amR s h a aq,zc,List.drop_eq_getElem_cons aq,eY,lN]
  cases decide (im a ((s.2.2.2.1.take j).map fun c=>c.1) s.2.2.2.1[j]=0) with
  |false=>exact⟨t,rfl⟩
  |true=>
   rw[Bool.not_true,zD,zC]
   dsimp only
   rw[zr (by omega),Int.toNat_natCast,Hx aq]
   have e:(s.2.2.2.1.take j).map (fun c=>c.1)++ [s.2.2.2.1[j].1]=(s.2.2.2.1.take (j+1)).map fun c=>c.1:=by rw[<-List.take_append_getElem aq,List.map_append];rfl
   rw[e]
   cases t with
   |true=>
    rw[zC,Bool.true_or]
    exact zi5 s h a n (j+1) k true (by omega) (by omega)
   |false=>
    rw[zD,Bool.false_or]
    exact zi5 s h a n (j+1) k _ (by omega) (by omega)
theorem zp7(s:aX)(h:cZ s):tj s=some (fM s):=by
 have he:=h.oo
 have hc:=h.fY
 unfold tj Vg fM
 rw[Qb s.1 h.iE,zc]
 cases decide ((hM s.1).1=0) with
 |false=>rfl
 |true=>
  rw[Bool.not_true,zD,zD,Br s.1 39 h.iE,zc]
  cases bq s.1 39 with
  |false=>rfl
  |true=>
   dsimp only
   rw[Bool.not_true,zD,zD]
   have e1:=L2 s h (aY s.1 39) s.2.2.1.length 0 ag (by omega) (by rw[zu];omega)
   rw[List.take_zero,List.drop_zero,show((0:Nat):Int)=0 from rfl] at e1
   rw[e1,zc]
   cases gb s.1 [] s.2.2.1 0 with
   |some e=>rfl
   |none=>
    dsimp only
    rw[Sum.elim_inr]
    unfold Vh
    dsimp only
    obtain⟨t',e2⟩:=zi5 s h (aY s.1 39) s.2.2.2.1.length 0 ag false (by omega) (by rw[zu];omega)
    rw[List.take_zero,List.drop_zero,show((0:Nat):Int)=0 from rfl,List.map_nil] at e2
    rw[e2,zc]
    cases eY (aY s.1 39) [] s.2.2.2.1 0 with
    |some e=>rfl
    |none=>
     dsimp only
     rw[Sum.elim_inr]
     unfold Vi
     rw[N1,Bool.false_or]
     dsimp only
     cases decide ((0:Int)∈s.2.2.2.1.map fun c=>c.1)<;>rfl
theorem zop(l:List bh)(hl:l.length<=9223372036854775807)(m:Nat)(hm:m<=l.length)(e:Int):∀(n j k:Nat),j+n=m->n<k->∃r,FG k l (m:Int) e (j:Int)=some r/\(e∈((l.take m).drop j).map (fun v=>v.1)->∃i,r= .inl i/\0<=i)/\(e∉((l.take m).drop j).map (fun v=>v.1)->r= .inr ())
 |n,j,0,_,hk=>by omega
 |0,j,k+1,hj,hk=>by
  unfold FG QC
  rw[zF (by omega),zD,List.drop_eq_nil_of_le (by rw[List.length_take];omega)]
  exact⟨_,rfl,fun h=>(by cases h),fun _=>rfl⟩
 |n+1,j,k+1,hj,hk=>by
  have aq:j<l.length:=by omega
  have gi:j<(l.take m).length:=by rw[List.length_take];omega
  unfold FG QC
  rw[zT (by omega),zC,zh aq,Int.toNat_natCast,Hx aq,List.drop_eq_getElem_cons gi,List.map_cons,List.getElem_take]
  by_cases he:l[j].1=e
  ·rw[zT he,zC]
   exact⟨_,rfl,fun _=>⟨(j:Int),rfl,by omega⟩,fun hn=>absurd (by rw[he];exact List.mem_cons_self) hn⟩
  ·rw[zF he,zD]
   dsimp only
   rw[zr (by omega)]
   obtain⟨r,h1,h2,h3⟩:=zop l hl m hm e n (j+1) k (by omega) (by omega)
   exact⟨r,h1,fun hm=>h2 ((List.mem_cons.1 hm).resolve_left fun e2=>he e2.symm),fun hn=>h3 fun hm=>hn (List.mem_cons_of_mem _ hm)⟩
theorem Mb(l:List bh)(hl:l.length<=maxLen)(m:Nat)(hm:m<=l.length)(e:Int):∃r,qS l (m:Int) e=some r/\decide (0<=r)=decide (e∈(l.take m).map fun v=>v.1):=by
 unfold qS Un
 rw[zi] at hl
 obtain⟨r,h1,h2,h3⟩:=zop l (by omega) m hm e m 0 ag (by omega) (by rw[zu];omega)
 rw[show((0:Nat):Int)=0 from rfl] at h1
 dsimp only
 rw[h1,zc]
 rw[List.drop_zero] at h2 h3
 by_cases dp:e∈(l.take m).map fun v=>v.1
 ·obtain⟨i,rfl,hi⟩:=h2 dp
  exact⟨i,rfl,by rw[zT hi,zT dp]⟩
 ·rw[h3 dp]
  exact⟨-1,rfl,by rw[zF dp];rfl⟩
theorem zom(s:aX)(h:cZ s)(t5:Int):∀(n j k:Nat),j+n=s.2.2.1.length->n<k->FE k t5 (j:Int) s=some (match gb s.1 (s.2.2.1.take j) (s.2.2.1.drop j) j with
 |some e=> .inl (e.1,2,e.2,t5,s)
 |none=> .inr (t5,s))
 |n,j,0,_,hk=>by omega
 |0,j,k+1,hj,hk=>by
  unfold FE Qz
  rw[zF (by omega),zD,List.drop_eq_nil_of_le (by omega)];rfl
 |n+1,j,k+1,hj,hk=>by
  have aq:j<s.2.2.1.length:=by omega
  have he:=h.oo
  have ih:=zom s h t5 n (j+1) k (by omega) (by omega)
  have hw:∀{R:Type} (z:Option R),zd (j:Int) s.2.2.1.length z=z:=fun z=>zh aq
  unfold FE Qz
  simp only[hw]
  rw[zT (by omega),zC,Int.toNat_natCast,Hx aq,S7 s.1 _ h.iE,zc,List.drop_eq_getElem_cons aq,gb]
  unfold kb
  rcases Th s.1 s.2.2.1[j] with⟨h1,h2,_⟩|⟨h1,_,h2,_⟩
  ·rw[h1,h2];rfl
  ·rw[h2,zF (by omega),zD,Bool.not_true,zD]
   cases decide (s.2.2.1[j]=39) with
   |true=>rfl
   |false=>
    rw[zD,zD,zT (by omega),zC,zT (by omega),zC,List.drop_zero,ale _ _ (by rw[List.length_take,zi];omega),zc]
    cases decide (s.2.2.1[j]∈s.2.2.1.take j) with
    |true=>rfl
    |false=>
     rw[zD,zD,zT rfl,zC]
     rw[zr (by omega),List.take_append_getElem aq]
     exact ih
theorem zol(s:aX)(h:cZ s)(t5:Int)(h5:0<=t5/\t5<s.1.2.2.1.length)(hs5:List.getD s.1.2.2.1 t5.toNat de=aY s.1 39):∀(n j k:Nat),j+n=s.2.2.2.1.length->n<k->FF k t5 (j:Int) s=some (match eY (aY s.1 39) ((s.2.2.2.1.take j).map fun c=>c.1) (s.2.2.2.1.drop j) j with
 |some e=> .inl (e.1,3,e.2,s)
 |none=> .inr s)
 |n,j,0,_,hk=>by omega
 |0,j,k+1,hj,hk=>by
  unfold FF QA
  rw[zF (by omega),zD,List.drop_eq_nil_of_le (by omega)];rfl
 |n+1,j,k+1,hj,hk=>by
  have aq:j<s.2.2.2.1.length:=by omega
  have he:=h.fY
  have ih:=zol s h t5 h5 hs5 n (j+1) k (by omega) (by omega)
  have hw:∀{R:Type} (z:Option R),zd (j:Int) s.2.2.2.1.length z=z:=fun z=>zh aq
  have hw5:∀{R:Type} (z:Option R),zd t5 s.1.2.2.1.length z=z:=fun z=>zn h5.1 h5.2
  have ht:=h.sA _ (List.getElem_mem aq)
  obtain⟨r,f1,f2⟩:=Mb s.2.2.2.1 (by rw[zi];omega) j (by omega) s.2.2.2.1[j].1
  unfold FF QA
  simp only[hw,hw5]
  rw[zT (by omega),zC,Int.toNat_natCast,Hx aq,f1,zc,f2,hs5,GU _ _ ht,zc,List.drop_eq_getElem_cons aq,eY]
  unfold im
  cases decide (s.2.2.2.1[j].1<0) with
  |true=>rfl
  |false=>
   rw[zD,zD]
   cases decide (16<s.2.2.2.1[j].1) with
   |true=>rfl
   |false=>
    rw[zD,zD]
    cases decide (s.2.2.2.1[j].1∈(s.2.2.2.1.take j).map fun c=>c.1) with
    |true=>rfl
    |false=>
     rw[zD,zD]
     cases decide (bI (aY s.1 39) s.2.2.2.1[j].2.1=0) with
     |false=>rfl
     |true=>
      rw[Bool.not_true,zD,zC]
      have e:(s.2.2.2.1.take j).map (fun c=>c.1)++ [s.2.2.2.1[j].1]=(s.2.2.2.1.take (j+1)).map fun c=>c.1:=by rw[<-List.take_append_getElem aq,List.map_append];rfl
      rw[zr (by omega),e]
      exact ih
theorem zrl(s:aX)(h:cZ s):sU s=some (fM s):=by
 have he:=h.oo
 have hc:=h.fY
 unfold sU Ug fM
 rw[zdm s.1 h.iE,zc]
 cases decide ((hM s.1).1=0) with
 |false=>rfl
 |true=>
  rw[Bool.not_true,zD,zD,S7 s.1 39 h.iE,zc]
  rcases Th s.1 39 with⟨h1,h2,_⟩|⟨h1,Zv,h2,h3⟩
  ·rw[h1,h2];rfl
  ·rw[h2,zF (by omega),zD,Bool.not_true,zD]
   dsimp only
   have e1:=zom s h (ff s.1.2.2.1 39 0) s.2.2.1.length 0 ag (by omega) (by rw[zu];omega)
   rw[List.take_zero,List.drop_zero,show((0:Nat):Int)=0 from rfl] at e1
   rw[e1,zc]
   cases gb s.1 [] s.2.2.1 0 with
   |some e=>rfl
   |none=>
    dsimp only
    rw[Sum.elim_inr]
    unfold Uh
    dsimp only
    have e2:=zol s h (ff s.1.2.2.1 39 0) ⟨h1,Zv⟩ h3 s.2.2.2.1.length 0 ag (by omega) (by rw[zu];omega)
    rw[List.take_zero,List.drop_zero,show((0:Nat):Int)=0 from rfl,List.map_nil] at e2
    rw[e2,zc]
    cases eY (aY s.1 39) [] s.2.2.2.1 0 with
    |some e=>rfl
    |none=>
     dsimp only
     rw[Sum.elim_inr]
     unfold Ui
     obtain⟨r,f1,f2⟩:=Mb s.2.2.2.1 (by rw[zi];omega) s.2.2.2.1.length (Nat.le_refl _) 0
     rw[List.take_length] at f2
     rw[f1,zc]
     by_cases hr:0<=r
     ·rw[zT hr] at f2
      rw[zF (by omega),<-f2];rfl
     ·rw[zF hr] at f2
      rw[zT (by omega),<-f2];rfl
abbrev FY:=List aX×Int×Unit
abbrev anj:zg:=((0:Int),(0:Int),([]:List Spec),())
abbrev qC:aX:=(anj,K5,([]:List Int),([]:List bh),())
abbrev Lm:Ty:= .pair (.int .i64) (.pair .str .unit)
abbrev uQ:Ty:= .pair anm (.pair Ln (.pair (.sl 0 (.int .i64)) (.pair (.sl 0 Lm) .unit)))
abbrev WK:Ty:= .pair (.arr 2 uQ) (.pair (.int .i64) .unit)
theorem ahF{c:FY}(h:c.1.length=2):∃p q,c=([p,q],c.2.1,()):=by
 obtain⟨l,n,u⟩:=c
 match l,h with
 | [p,q],_=>exact⟨p,q,rfl⟩
theorem HL:∃k,ag=k+1+1+1:=⟨ag-3,by rw[zu]⟩
def HM(s:aX):Bool:=decide ((200:Int)<(s.1.2.2.1.length:Int))||(decide ((300:Int)<(s.2.2.1.length:Int))||(decide ((300:Int)<(s.2.2.2.1.length:Int))||s.2.2.2.1.any fun c=>decide ((1200:Int)<(c.2.1.size:Int))))
theorem PB:∀(l:List bh) (i:Int),bk (fun i (x:bh) (s:Unit) K=>(bif(decide ((1200:Int)<((x.2.1).size:Int))) then some (Sum.inl true) else K s)) (fun _=>some (Sum.inr ())) l i ()=some (bif l.any (fun c=>decide ((1200:Int)<(c.2.1.size:Int))) then Sum.inl true else Sum.inr ())
 | [],i=>rfl
 |x::r,i=>by
  rw[bk,List.any_cons]
  cases decide ((1200:Int)<(x.2.1.size:Int)) with
  |true=>rfl
  |false=>exact PB r (i+1)
theorem zrm(s:aX)(h:s.2.2.2.1.length<=maxLen):mH s=some (HM s):=by
 unfold mH Ul HM
 cases decide ((200:Int)<(s.1.2.2.1.length:Int)) with
 |true=>rfl
 |false=>
  rw[zD,Bool.false_or]
  cases decide ((300:Int)<(s.2.2.1.length:Int)) with
  |true=>rfl
  |false=>
   rw[zD,Bool.false_or]
   cases decide ((300:Int)<(s.2.2.2.1.length:Int)) with
   |true=>rfl
   |false=>
    rw[zD,Bool.false_or]
    have:=cw Be s.2.2.2.1 h (fun i (x:bh) (s:Unit) K=>(bif(decide ((1200:Int)<((x.2.1).size:Int))) then some (Sum.inl true) else K s)) (fun _=>some (Sum.inr ()))
     (fun k i u=>QB k i s) (fun k i u=>rfl) ()
    dsimp only
    rw[this,PB]
    cases s.2.2.2.1.any (fun c=>decide ((1200:Int)<(c.2.1.size:Int)))<;>rfl
theorem Md{s:aX}(h:HM s=false):cZ s/\s.1.2.2.1.length<=200/\s.2.2.1.length<=300/\s.2.2.2.1.length<=300/\∀c∈s.2.2.2.1,c.2.1.size<=1200:=by
 unfold HM at h
 simp only[Bool.or_eq_false_iff,decide_eq_false_iff_not] at h
 obtain⟨h1,h2,h3,h4⟩:=h
 have ht:∀c∈s.2.2.2.1,c.2.1.size<=1200:=fun c hc=>by
  by_cases e:(1200:Int)<(c.2.1.size:Int)
  ·rw[List.any_eq_true.2 ⟨c,hc,zT e⟩] at h4;cases h4
  ·omega
 exact⟨⟨by rw[zi];omega,by omega,by omega,fun c hc=>by have:=ht c hc;omega⟩,by omega,by omega,by omega,ht⟩
structure cH(p q:aX):Prop where
 sp:cZ p
 sq:cZ q
 pm:dM p.2.1
 qm:dM q.2.1
 CV:p.1.2.2.1.length<=200
 CY:q.1.2.2.1.length<=200
 pe:p.2.2.1.length<=300
 qe:q.2.2.1.length<=300
 pml:p.2.1.2.1.length<=300
 qml:q.2.1.2.1.length<=300
 abG:∀c∈p.2.2.2.1,c.2.1.size<=1200
 abH:∀c∈q.2.2.2.1,c.2.1.size<=1200
theorem zou{m:Map}(h:BK m=false):m.2.1.length<=300:=by
 unfold BK at h
 simp only[Bool.or_eq_false_iff,decide_eq_false_iff_not] at h
 omega
theorem adL{p q:aX}{n:Int}(h:Wf WK ([p,q],n,())):∃g,mI ([p,q],n,())=some g/\(g=false->cH p q):=by
 have hp:Wf uQ p:=h.1.2 p (by simp)
 have hq:Wf uQ q:=h.1.2 q (by simp)
 have w0:∀{R:Type} (x:Option R),zd 0 2 x=x:=fun x=>zn (by omega) (by omega)
 have w1:∀{R:Type} (x:Option R),zd 1 2 x=x:=fun x=>zn (by omega) (by omega)
 unfold mI Us
 simp only[w0,w1]
 show∃g,((mH p).bind fun r1=>(bif r1 then some true else((mH q).bind fun r2=>(bif r2 then some true else((lO p.2.1).bind fun r3=>(bif r3 then some true else((lO q.2.1).bind fun r4=>some r4)))))))=some g/\_
 rw[zrm p hp.2.2.2.1.1,zc]
 cases h1:HM p with
 |true=>exact⟨true,rfl,fun h=>by cases h⟩
 |false=>
  rw[zD,zrm q hq.2.2.2.1.1,zc]
  cases h2:HM q with
  |true=>exact⟨true,rfl,fun h=>by cases h⟩
  |false=>
   rw[zD,NZ hp.2.1,zc]
   cases h3:BK p.2.1 with
   |true=>exact⟨true,rfl,fun h=>by cases h⟩
   |false=>
    rw[zD,NZ hq.2.1,zc]
    refine⟨_,rfl,fun h4=> ?_⟩
    obtain⟨a1,a2,a3,a4,a5⟩:=Md h1
    obtain⟨b1,b2,b3,b4,b5⟩:=Md h2
    exact⟨a1,b1,Mc h3,Mc h4,a2,b2,a3,b3,zou h3,zou h4,a5,b5⟩
def fI(p q:aX)(n:Int):Int×Int×Int:=
 bif decide (n<1) then(5,2,0) else bif decide (65535<n) then(5,2,0)
 else bif !decide ((fM p).1=0) then((fM p).1,0,1) else bif !decide ((dC p.2.1 p.1 q.1).1=0) then((dC p.2.1 p.1 q.1).1,0,2)
 else bif !decide ((fM q).1=0) then((fM q).1,1,1) else bif !decide ((dC q.2.1 q.1 p.1).1=0) then((dC q.2.1 q.1 p.1).1,1,2) else(0,0,0)
theorem rQ{R:Type}(x:Option R):zd 0 2 x=x:=zn (by omega) (by omega)
theorem rR{R:Type}(x:Option R):zd 1 2 x=x:=zn (by omega) (by omega)
theorem vC:zW zI ((1:Int)-(0:Int))=1:=by decide
theorem vD:zW zI ((1:Int)-(1:Int))=0:=by decide
theorem Bf:zW zI ((0:Int)+(1:Int))=1:=by decide
theorem Bg:zW zI ((1:Int)+(1:Int))=2:=by decide
theorem gp(p q:aX):List.getD [p,q] (0:Int).toNat qC=p:=rfl
theorem gq(p q:aX):List.getD [p,q] (1:Int).toNat qC=q:=rfl
theorem zee(p q:aX)(n:Int)(h:cH p q):qZ ([p,q],n,())=some (fI p q n):=by
 obtain⟨k,hk⟩:=HL
 unfold qZ Vr fI
 dsimp only
 cases decide (n<1) with
 |true=>rfl
 |false=>
  cases decide (65535<n) with
  |true=>rfl
  |false=>
   rw[zD,zD,zD,zD,hk]
   unfold FP Hn
   simp only[rQ,rR,vC,vD,Bf,Bg,gp,gq]
   rw[zT (by decide:(0:Int)<2),zC,zp7 p h.sp,zc]
   cases decide ((fM p).1=0) with
   |false=>rfl
   |true=>
    rw[Bool.not_true,zD,zD,z80 p.2.1 p.1 q.1 h.pm h.sp.iE h.sq.iE,zc]
    cases decide ((dC p.2.1 p.1 q.1).1=0) with
    |false=>rfl
    |true=>
     rw[Bool.not_true,zD,zD]
     unfold FP Hn
     simp only[rQ,rR,vC,vD,Bf,Bg,gp,gq]
     rw[zT (by decide:(1:Int)<2),zC,zp7 q h.sq,zc]
     cases decide ((fM q).1=0) with
     |false=>rfl
     |true=>
      rw[Bool.not_true,zD,zD,z80 q.2.1 q.1 p.1 h.qm h.sq.iE h.sp.iE,zc]
      cases decide ((dC q.2.1 q.1 p.1).1=0) with
      |false=>rfl
      |true=>
       rw[Bool.not_true,zD,zD]
       unfold FP Hn
       rw[zF (by decide:¬(2:Int)<2),zD]
       rfl
theorem ac8(p q:aX)(n:Int)(h:cH p q):sW ([p,q],n,())=some (fI p q n):=by
 obtain⟨k,hk⟩:=HL
 unfold sW Up fI
 dsimp only
 cases decide (n<1) with
 |true=>rfl
 |false=>
  cases decide (65535<n) with
  |true=>rfl
  |false=>
   rw[zD,zD,zD,zD,hk]
   unfold FH Hh
   simp only[rQ,rR,vC,vD,Bf,Bg,gp,gq]
   rw[zT (by decide:(0:Int)<2),zC,zrl p h.sp,zc]
   cases decide ((fM p).1=0) with
   |false=>rfl
   |true=>
    rw[Bool.not_true,zD,zD,zrk p.2.1 p.1 q.1 h.pm h.sp.iE h.sq.iE,zc]
    cases decide ((dC p.2.1 p.1 q.1).1=0) with
    |false=>rfl
    |true=>
     rw[Bool.not_true,zD,zD]
     unfold FH Hh
     simp only[rQ,rR,vC,vD,Bf,Bg,gp,gq]
     rw[zT (by decide:(1:Int)<2),zC,zrl q h.sq,zc]
     cases decide ((fM q).1=0) with
     |false=>rfl
     |true=>
      rw[Bool.not_true,zD,zD,zrk q.2.1 q.1 p.1 h.qm h.sq.iE h.sp.iE,zc]
      cases decide ((dC q.2.1 q.1 p.1).1=0) with
      |false=>rfl
      |true=>
       rw[Bool.not_true,zD,zD]
       unfold FH Hh
       rw[zF (by decide:¬(2:Int)<2),zD]
       rfl
theorem Ly(s:aX)(h:cZ s)(h2:s.1.2.2.1.length<=200):sV s=some s:=by
 have he:=h.oo
 have hc:=h.fY
 unfold sV Uj
 rw[aeg s.1 (by omega),zc,zT (by simp;omega),zC,zT (by simp;omega),zC]
 rfl
theorem qA(p q r:aX):List.set [p,q] (0:Int).toNat r=[r,q]:=rfl
theorem qB(p q r:aX):List.set [p,q] (1:Int).toNat r=[p,r]:=rfl
theorem Gt(p q:aX):List.getD [p,q] (0:Int).toNat ((((0:Int),(0:Int),([]:List Spec),()),(([]:List bA),([]:List aV),()),([]:List Int),([]:List bh),()):aX)=p:=rfl
theorem Gu(p q:aX):List.getD [p,q] (1:Int).toNat ((((0:Int),(0:Int),([]:List Spec),()),(([]:List bA),([]:List aV),()),([]:List Int),([]:List bh),()):aX)=q:=rfl
theorem aei(p q:aX)(n:Int)(h:cH p q):sX ([p,q],n,())=some ([p,q],n,()):=by
 obtain⟨k,hk⟩:=HL
 unfold sX Ur
 dsimp only
 rw[hk]
 unfold FI Hi
 simp only[rQ,rR,vC,vD,Bf,Bg,gp,gq,Gt,Gu,qA,qB]
 rw[zT (by decide:(0:Int)<2),zC,Lx _ h.pm,zc,Ly p h.sp h.CV,zc]
 unfold FI Hi
 simp only[rQ,rR,vC,vD,Bf,Bg,gp,gq,Gt,Gu,qA,qB]
 rw[zT (by decide:(1:Int)<2),zC,Lx _ h.qm,zc,Ly q h.sq h.CY,zc]
 unfold FI Hi
 rw[zF (by decide:¬(2:Int)<2),zD]
 rfl
theorem w0{R:Type}(x:Option R):zd 0 2 x=x:=zn (by omega) (by omega)
theorem w1{R:Type}(x:Option R):zd 1 2 x=x:=zn (by omega) (by omega)
theorem ga(a b:zg):List.getD ([a,b]:List zg) (0:Int).toNat ((0:Int),(0:Int),([]:List Spec),())=a:=rfl
def du(m:ByteArray):ByteArray:=strOf [ze m 0,ze m 1,ze m 2+1,ze m 3]
theorem am1{m:ByteArray}(h:m.size=4):bl m=[ze m 0,ze m 1,ze m 2,ze m 3]:=by
 have hl:(bl m).length=4:=by rw[zf];exact h
 have e:=fun i=>lK m i
 match hb:bl m,hl with
 | [a,b,c,d],_=>rw[e 0,e 1,e 2,e 3,hb];rfl
theorem Tp{m:ByteArray}(h:eH m=true):fR m=true/\(ze m 2=48\/ze m 2=50):=by
 unfold eH at h
 rw[Bool.and_eq_true,Bool.or_eq_true,decide_eq_true_eq,decide_eq_true_eq] at h
 exact h
theorem O3{m:ByteArray}(h:eH m=true):bl (du m)=[ze m 0,ze m 1,ze m 2+1,ze m 3]/\bE [ze m 0,ze m 1,ze m 2+1,ze m 3]=true:=by
 obtain⟨hr,h2⟩:=Tp h
 have d0:=yl hr 0 (by decide)
 have d1:=yl hr 1 (by decide)
 have d3:=yl hr 3 (by decide)
 have hd:bE [ze m 0,ze m 1,ze m 2+1,ze m 3]=true:=rU.2 ⟨z31.2 d0,rU.2 ⟨z31.2 d1,rU.2 ⟨z31.2 (by omega),rU.2 ⟨z31.2 d3,rfl⟩⟩⟩⟩
 exact⟨sD (LV hd),hd⟩
theorem ani{m:ByteArray}(h:eH m=true):fR (du m)=true/\gB (du m)=gB m/\eH (du m)=false:=by
 obtain⟨hr,h2⟩:=Tp h
 obtain⟨hb,hd⟩:=O3 h
 have hs:(du m).size=4:=by rw[<-zf,hb];rfl
 have fc:fR (du m)=true:=rS.2 ⟨hs,by rw[hb];exact hd⟩
 have e0:ze (du m) 0=ze m 0:=by rw[lK (du m),hb];rfl
 have e2:ze (du m) 2=ze m 2+1:=by rw[lK (du m),hb];rfl
 refine⟨fc,?_,?_⟩
 ·unfold gB
  rw[hr,fc,e0]
 ·unfold eH
  rw[fc,e2,zF (by omega),zF (by omega)];rfl
theorem acy(m:ByteArray)(h:m.size<=maxLen):tf m=some (if eH m=true then(du m,true) else(bs [],false)):=by
 unfold tf U4
 rw[zdl m h,zc]
 cases hr:eH m with
 |false=>rfl
 |true=>
  obtain⟨eR,h2⟩:=Tp hr
  have h4:=(rS.1 eR).1
  have hb:=am1 h4
  have z1:(m.extract 0 2).size=2:=by rw[ByteArray.size_extract];omega
  have z3:(m.extract 3 m.size).size=1:=by rw[ByteArray.size_extract];omega
  have zs:∀x:Int,(strOf [x]).size=1:=fun x=>by rw[vG];rfl
  have hw:zW zU (ze m 2+1)=ze m 2+1:=by
   rcases h2 with e|e<;>rw[e]<;>decide
  rw[Bool.not_true,zD,show((2:Int)).toNat=2 from rfl,show((3:Int)).toNat=3 from rfl,zT (by omega),zC,show(2:Int)=((2:Nat):Int) from rfl,zh (by omega),hw,zT (by rw[z1,zs];decide),zC,zT (by omega),zC,zT (by rw[Bu,z1,zs,z3];decide),zC,if_pos rfl]
  congr 2
  apply BI
  rw[qI,qI,qG,qG,h4,hb,(O3 hr).1]
  have hx:zm (ze m 2+1):=by unfold zm;omega
  rw[sD (xs:=[ze m 2+1]) (by simpa using hx)]
  rfl
def eS(l:List bh)(no:Int):Option bh:=l.find? fun v=>decide (v.1=no)
theorem z183(no:Int):∀(l:List bh) (i:Int),bk (fun i (x:bh) (s:Unit) K=>bif decide (x.1=no) then some (Sum.inl (x.2.1,true)) else K s) (fun _=>some (Sum.inr ())) l i ()=some (match eS l no with
 |some v=> .inl (v.2.1,true)
 |none=>(.inr ():Sum jK Unit))
 | [],i=>rfl
 |x::r,i=>by
  rw[bk]
  unfold eS
  rw[List.find?_cons]
  cases hx:decide (x.1=no) with
  |true=>rfl
  |false=>exact z183 no r (i+1)
theorem alg(m:bK)(no:Int)(h:m.2.1.length<=1000000):nZ m no=some (match eS m.2.1 no with
 |some v=>(v.2.1,true)
 |none=>(bs [],false)):=by
 unfold nZ UX
 dsimp only
 have:=cw nx m.2.1 (by rw[zi];omega) (fun i (x:bh) (s:Unit) K=>bif decide (x.1=no) then some (Sum.inl (x.2.1,true)) else K s) (fun _=>some (Sum.inr ())) (fun k i s=>QL k no m.2.1 (m.2.1.length:Int) i) (fun k i s=>rfl) ()
 rw[this,z183]
 cases eS m.2.1 no<;>rfl
def iq(s:aX)(e:Int):ByteArray:=match eS s.2.2.2.1 e with
 |some c=>c.2.1
 |none=>match eS s.2.2.2.1 0 with
  |some c=>c.2.1
  |none=>bs []
theorem LN(s:aX)(e:Int)(q:List Int)(n i0:Int):∀(l:List bh) (i:Int),bk (fun i (x:bh) (u:Unit) K=>bif decide (x.1=e) then some (Sum.inl (x.2.1,q,n,i0,s)) else K u) (fun _=>some (Sum.inr (q,n,i0,s))) l i ()=some (match eS l e with
 |some v=> .inl (v.2.1,q,n,i0,s)
 |none=>(.inr (q,n,i0,s):Sum (ByteArray×List Int×Int×Int×aX) (List Int×Int×Int×aX)))
 | [],i=>rfl
 |x::r,i=>by
  rw[bk]
  unfold eS
  rw[List.find?_cons]
  cases hx:decide (x.1=e) with
  |true=>rfl
  |false=>exact LN s e q n i0 r (i+1)
theorem amS(s:aX)(hs:s.2.2.2.1.length<=1000000)(e:Int)(q:List Int)(n i0:Int):Hm ag e q n i0 s.2.2.2.1 (s.2.2.2.1.length:Int) 0 s=some (match eS s.2.2.2.1 e with
 |some v=> .inl (v.2.1,q,n,i0,s)
 |none=>(.inr (q,n,i0,s):Sum (ByteArray×List Int×Int×Int×aX) (List Int×Int×Int×aX))):=by
 rw[<-LN s e q n i0 s.2.2.2.1 0]
 exact cw nx s.2.2.2.1 (by rw[zi];omega) (fun i (x:bh) (u:Unit) K=>bif decide (x.1=e) then some (Sum.inl (x.2.1,q,n,i0,s)) else K u) (fun _=>some (Sum.inr (q,n,i0,s))) (fun k i u=>Hm k e q n i0 s.2.2.2.1 (s.2.2.2.1.length:Int) i s) (fun k i u=>rfl) ()
theorem ala(s:aX)(hs:s.2.2.2.1.length<=1000000)(e:Int):tk s e=some (iq s e):=by
 obtain⟨k,hk⟩:=HL
 have h1:=amS s hs
 unfold tk Vl iq
 dsimp only
 rw[show(List.length [e,(0:Int)]:Int)=2 from rfl]
 have step:∀(K i:Nat) (x:Int),i<2->List.getD [e,(0:Int)] i 0=x->BA (K+1) [e,0] 2 (i:Int) s=match eS s.2.2.2.1 x with
  |some v=>some (.inr v.2.1)
  |none=>BA K [e,0] 2 ((i+1:Nat):Int) s:=by
  intro K i x hi hx
  conv=>lhs;unfold BA QT
  rw[zT (by omega),zC,show(List.length [e,(0:Int)])=2 from rfl,zh hi,Int.toNat_natCast,hx]
  dsimp only
  rw[h1,zc]
  cases eS s.2.2.2.1 x with
  |some v=>rfl
  |none=>
   dsimp only
   rw[Sum.elim_inr]
   unfold Vm
   dsimp only
   rw[zr (by omega)]
 have s0:=step (k+1+1) 0 e (by decide) rfl
 have s1:=step (k+1) 1 0 (by decide) rfl
 rw[show((0:Nat):Int)=0 from rfl] at s0
 rw[hk,s0]
 cases eS s.2.2.2.1 e with
 |some v=>rfl
 |none=>
  dsimp only
  rw[s1]
  cases eS s.2.2.2.1 0 with
  |some v=>rfl
  |none=>
   dsimp only
   unfold BA QT
   rw[zF (by decide)];rfl
def fC(l:List bh):List Int->bK->bK
 | [],o=>o
 |no::r,o=>fC l r (match eS l no with
  |some v=>eC o no v.2.1
  |none=>o)
def sI(s:aX)(m:bK)(e:Int):bK:=eC (fC m.2.1 s.2.2.1 (du m.1,[],())) 39 (iq s e)
def EZ(s:aX)(m:bK)(f:bZ):bK×Bool:=if eH m.1=true then(sI s m f.1,true) else(dy,false)
theorem zri(m:bK)(no:Int)(t:ByteArray):(eC m no t).2.1.length<=m.2.1.length+1:=Tq m no t
theorem zi9(l:List bh):∀(e:List Int) (o:bK),(fC l e o).2.1.length<=o.2.1.length+e.length
 | [],o=>Nat.le_refl _
 |no::r,o=>by
  rw[fC,List.length_cons]
  have h:=zi9 l r (match eS l no with
   |some v=>eC o no v.2.1
   |none=>o)
  cases hx:eS l no with
  |some v=>
   rw[hx] at h
   have:=zri o no v.2.1
   dsimp only at h⊢
   omega
  |none=>rw[hx] at h;dsimp only at h⊢;omega
theorem zib{ρ:Type}(m:bK)(hm:m.2.1.length<=1000000)(fin:bK->Option ρ):∀(l:List Int) (i:Int) (o:bK),o.2.1.length+l.length<=1000000->
 bk (fun i (x:Int) (o:bK) K=>(nZ m x).bind fun r2=>(bif r2.2 then((ig o x r2.1).bind fun r3=>K r3) else K o)) fin l i o=fin (fC m.2.1 l o)
 | [],i,o,_=>rfl
 |x::r,i,o,h=>by
  rw[List.length_cons] at h
  rw[bk,alg m x hm,zc,fC]
  cases hx:eS m.2.1 x with
  |some v=>
   have:=zri o x v.2.1
   dsimp only
   rw[zC,Ts o x _ (by omega),zc]
   exact zib m hm fin r (i+1) _ (by omega)
  |none=>exact zib m hm fin r (i+1) o (by omega)
theorem ahT(s:aX)(m:bK)(f:bZ)(hs:cZ s)(he:s.2.2.1.length<=300)(hm:eU m):ti s m f=some (EZ s m f):=by
 have CB:=hm.len
 unfold ti Vc EZ
 rw[acy m.1 (by rw[zi];exact hm.uJ),zc]
 cases hr:eH m.1 with
 |false=>rfl
 |true=>
  rw[if_pos rfl,if_pos rfl,Bool.not_true,zD]
  dsimp only
  have hl:=cw (0:Int) s.2.2.1 (by rw[zi];omega) (fun i (x:Int) (o:bK) K=>(nZ m x).bind fun r2=>(bif r2.2 then((ig o x r2.1).bind fun r3=>K r3) else K o)) (fun o=>some (s,f,dy,o)) (fun k i o=>QQ k s.2.2.1 (s.2.2.1.length:Int) i s m f dy o) (fun k i o=>rfl) (du m.1,[],())
  have hb:=zi9 m.2.1 s.2.2.1 (du m.1,[],())
  rw[hl,zib m (by omega) _ _ _ _ (by simp;omega),zc]
  unfold Vd
  dsimp only at hb⊢
  rw[ala s hs.fY,zc,Ts _ _ _ (by rw[List.length_nil] at hb;omega),zc]
  rfl
theorem zv5{a:Spec}:∀{l:List bh} {prev:List Int} {i:Int},eY a prev l i=none->∀c∈l,bI a c.2.1=0
 | [],_,_,_,c,hc=>by cases hc
 |x::r,prev,i,h,c,sk=>by
  rw[eY] at h
  by_cases hc:im a prev x=0
  ·rw[zT hc,zC] at h
   rcases List.mem_cons.1 sk with rfl|sk
   ·unfold im at hc
    cases h1:decide (c.1<0) with
    |true=>rw[h1] at hc;cases hc
    |false=>
     rw[h1,zD] at hc
     cases h2:decide (16<c.1) with
     |true=>rw[h2] at hc;cases hc
     |false=>
      rw[h2,zD] at hc
      cases h3:decide (c.1∈prev) with
      |true=>rw[h3] at hc;cases hc
      |false=>rw[h3,zD] at hc;exact hc
   ·exact zv5 h c sk
  ·rw[zF hc] at h;cases h
structure tO(s:aX):Prop where
 iE:(hM s.1).1=0
 act:bq s.1 39=true
 fY:∀c∈s.2.2.2.1,bI (aY s.1 39) c.2.1=0
 zero:(0:Int)∈s.2.2.2.1.map fun c=>c.1
theorem akV{s:aX}(h:(fM s).1=0):tO s:=by
 unfold fM at h
 by_cases h1:(hM s.1).1=0
 case neg=>rw[zF h1] at h;cases h
 rw[zT h1,Bool.not_true,zD] at h
 cases h2:bq s.1 39 with
 |false=>rw[h2] at h;cases h
 |true=>
  rw[h2,Bool.not_true,zD] at h
  have ne:∀{l:List Int} {prev:List Int} {i:Int} {e:Int×Int},gb s.1 prev l i=some e->e.1≠0:=by
   intro l
   induction l with
   |nil=>intro _ _ _ h;cases h
   |cons x r ih=>
    intro prev i e h
    rw[gb] at h
    by_cases hc:kb s.1 prev x=0
    ·rw[zT hc,zC] at h;exact ih h
    ·rw[zF hc,zD] at h;cases h;exact hc
  have nc:∀{l:List bh} {prev:List Int} {i:Int} {e:Int×Int},eY (aY s.1 39) prev l i=some e->e.1≠0:=by
   intro l
   induction l with
   |nil=>intro _ _ _ h;cases h
   |cons x r ih=>
    intro prev i e h
    rw[eY] at h
    by_cases hc:im (aY s.1 39) prev x=0
    ·rw[zT hc,zC] at h;exact ih h
    ·rw[zF hc,zD] at h;cases h;exact hc
  cases h3:gb s.1 [] s.2.2.1 0 with
  |some e=>rw[h3] at h;exact absurd h (ne h3)
  |none=>
   rw[h3] at h
   dsimp only at h
   cases h4:eY (aY s.1 39) [] s.2.2.2.1 0 with
   |some e=>rw[h4] at h;exact absurd h (nc h4)
   |none=>
    rw[h4] at h
    dsimp only at h
    by_cases h5:(0:Int)∈s.2.2.2.1.map fun c=>c.1
    ·exact⟨h1,h2,zv5 h4,h5⟩
    ·rw[zF h5] at h;cases h
theorem ajX{s:aX}(h:tO s)(e:Int):bI (aY s.1 39) (iq s e)=0:=by
 unfold iq
 cases h1:eS s.2.2.2.1 e with
 |some c=>exact h.fY c (List.mem_of_find?_eq_some h1)
 |none=>
  cases h2:eS s.2.2.2.1 0 with
  |some c=>exact h.fY c (List.mem_of_find?_eq_some h2)
  |none=>
   obtain⟨c,hc,h0⟩:=List.mem_map.1 h.zero
   have:=List.find?_eq_none.1 h2 c hc
   exact absurd (zT h0) this
theorem L1(l:List bh):∀(e:List Int) (o:bK) (v:bh),v∈(fC l e o).2.1->v∈o.2.1\/v∈l
 | [],o,v,h=> .inl h
 |no::r,o,v,h=>by
  rw[fC] at h
  rcases L1 l r _ v h with h|h
  ·cases hx:eS l no with
   |none=>rw[hx] at h;exact .inl h
   |some w=>
    rw[hx] at h
    rcases(Tr o no w.2.1 v).1 h with e|⟨h,_⟩
    ·have hw:=List.find?_some hx
     have hw:w.1=no:=by simpa using hw
     right
     rw[e,<-hw]
     exact List.mem_of_find?_eq_some hx
    ·exact .inl h
  ·exact .inr h
theorem zia(l:List bh):∀(e:List Int) (o:bK),jY o.2.1->jY (fC l e o).2.1/\(fC l e o).1=o.1
 | [],o,h=>⟨h,rfl⟩
 |no::r,o,h=>by
  rw[fC]
  cases hx:eS l no with
  |none=>exact zia l r o h
  |some w=>
   obtain⟨h1,h2⟩:=zia l r (eC o no w.2.1) (zjc h no w.2.1)
   exact⟨h1,h2⟩
structure Part(s:zg)(m:bK):Prop where
 head:fR m.1=true->gB m.1=s.2.1
 uJ:m.1.size<=1000
 len:m.2.1.length<=200
 jC:∀v∈m.2.1,bq s v.1=true/\bI (aY s v.1) v.2.1=0/\v.2.1.size<=999
theorem Part.ok{s:zg}{m:bK}(h:Part s m):eU m:=⟨by have:=h.uJ;omega,by have:=h.len;omega,fun v hv=>by have:=(h.jC v hv).2.2;omega⟩
theorem ajU{s:aX}(hk:tO s)(ho:cZ s)(he:s.2.2.1.length<=300){m:bK}(hm:Part s.1 m)(e:Int)(hr:eH m.1=true):kH s.1 (sI s m e)/\pR (sI s m e)/\eH (sI s m e).1=false:=by
 obtain⟨r1,r2,r3⟩:=ani hr
 obtain⟨b1,b2⟩:=zia m.2.1 s.2.2.1 (du m.1,[],()) List.Pairwise.nil
 have xx:(sI s m e).1=du m.1:=b2
 have ok:=(Bp s.1).1 hk.iE
 have hc:=ajX hk e
 have eF:(iq s e).size<=1099511627776:=by
  unfold iq
  split
  ·rename_i c h;exact ho.sA c (List.mem_of_find?_eq_some h)
  ·split
   ·rename_i c h;exact ho.sA c (List.mem_of_find?_eq_some h)
   ·exact Nat.zero_le _
 have hf:∀v∈(sI s m e).2.1,bq s.1 v.1=true/\bI (aY s.1 v.1) v.2.1=0/\v.2.1.size<=999:=fun v hv=>by
  rcases(Tr _ _ _ v).1 hv with rfl|⟨hv,_⟩
  ·obtain⟨v1,v2,v3,_,_⟩:=(Qn _ _ eF).1 hc
   have:=WG v1
   exact⟨hk.act,hc,by dsimp only;omega⟩
  ·rcases L1 _ _ _ v hv with hv|hv
   ·cases hv
   ·exact hm.jC v hv
 have aad:jY (sI s m e).2.1:=zjc b1 39 (iq s e)
 refine⟨⟨hk.iE,by rw[xx];exact r1,by rw[xx,r2];exact hm.head (Tp hr).1,Fa.2 ⟨fun v hv=>⟨(hf v hv).1,(hf v hv).2.1⟩,aad,fun v hv=>by have:=anb ok (hf v hv).1;omega⟩⟩,⟨by rw[xx];have:=(rS.1 r1).1;omega,?_,fun v hv=>by have:=(hf v hv).2.2;omega⟩,by rw[xx];exact r3⟩
 have h1:=zi9 m.2.1 s.2.2.1 (du m.1,[],())
 have h2:=zri (fC m.2.1 s.2.2.1 (du m.1,[],())) 39 (iq s e)
 unfold sI
 dsimp only[List.length_nil] at h1
 omega
theorem LU(s:zg)(b:ByteArray)(hb:b.size<=1099511627776):∀(r:List Int) (a:Nat) (o:List bh),(∀v∈o,bq s v.1=true/\bI (aY s v.1) v.2.1=0/\v.2.1.size<=999)->(∀v∈(kK s b r a o).1,bq s v.1=true/\bI (aY s v.1) v.2.1=0/\v.2.1.size<=999)/\(kK s b r a o).1.length<=o.length+r.length
 | [],a,o,h=>⟨h,Nat.le_refl _⟩
 |no::r,a,o,h=>by
  rw[kK]
  split
  ·exact⟨h,Nat.le_add_right _ _⟩
  ·rename_i hf
   have hf:bq s no=true:=by cases hh:bq s no with
    |true=>rfl
    |false=>exact absurd hh hf
   split
   ·exact⟨h,Nat.le_add_right _ _⟩
   ·rename_i hz
    generalize hg:qK s.1 (aY s no) b (a:Int)=g at hz⊢
    obtain⟨t,z,e⟩:=g
    dsimp only at hz⊢
    have he:e=0:=Classical.byContradiction fun hn=>hz hn
    subst he
    obtain⟨c1,c2,c3,c4,c5,c6⟩:=zv4 hb hg
    have h2:∀v∈o++ [((no,t,()):bh)],bq s v.1=true/\bI (aY s v.1) v.2.1=0/\v.2.1.size<=999:=fun v hv=>by
     rcases List.mem_append.1 hv with hv|hv
     ·exact h v hv
     ·rw[List.mem_singleton.1 hv];exact⟨hf,c2,c5⟩
    obtain⟨i1,i2⟩:=LU s b hb r z.toNat _ h2
    rw[List.length_append,List.length_singleton] at i2
    exact⟨i1,by rw[List.length_cons];omega⟩
theorem A5(s:zg):Part s dy:=⟨fun h=>(by cases h),Nat.zero_le _,Nat.zero_le _,fun v hv=>(by cases hv)⟩
theorem aj1(s:zg)(b:ByteArray)(hb:b.size<=1099511627776):Part s (mY s b).1:=by
 unfold mY
 split
 ·exact A5 s
 cases ht:oP s b with
 |inl e=>exact A5 s
 |inr q=>
  unfold oP at ht
  split at ht
  ·cases ht
  split at ht
  case isFalse=>cases ht
  rename_i hr
  injection ht with ht
  subst ht
  have h4:=(rS.1 hr.1).1
  show Part s (xh s b (iZ s.1 b) _).1
  unfold xh
  split
  ·exact⟨fun _=>hr.2,by dsimp only;omega,Nat.zero_le _,fun v hv=>by cases hv⟩
  ·obtain⟨p1,p2⟩:=LU s b hb (elems (cU s.1 b (iH s.1)).1 (cU s.1 b (iH s.1)).2.1) (cU s.1 b (iH s.1)).2.2.1.toNat [] (fun v hv=>by cases hv)
   have:=zqy (cU s.1 b (iH s.1)).1 (cU s.1 b (iH s.1)).2.1
   rw[List.length_nil] at p2
   exact⟨fun _=>hr.2,by dsimp only;omega,by dsimp only;omega,p1⟩
def oh(p:aX)(n:Int)(m:bK)(f:bZ):Int×ByteArray:=
 if eH m.1=true then(if n<((jA p.1 (sI p m f.1)).size:Int) then(3,bs []) else(2,jA p.1 (sI p m f.1))) else(3,bs [])
def CS(p q:aX)(n:Int)(m:bK)(t:bK×bZ):Int×ByteArray:=
 if¬t.2.1=0 then oh p n m t.2 else if n<((jA q.1 t.1).size:Int) then oh p n m (5,129,()) else(1,jA q.1 t.1)
def CR(p q:aX)(n:Int)(d:bK×bZ):Int×ByteArray:=if¬d.2.1=0 then oh p n d.1 d.2 else CS p q n d.1 (sd p.2.1 p.1 q.1 d.1)
def rN(p q:aX)(n:Int)(b:ByteArray):Int×ByteArray:=CR p q n (mY p.1 b)
structure qO(p q:aX)(n:Int):Prop where
 n1:1<=n
 n2:n<=65535
 rp:(fM p).1=0
 rq:(fM q).1=0
 mp:(dC p.2.1 p.1 q.1).1=0
 mq:(dC q.2.1 q.1 p.1).1=0
theorem qO.symm{p q:aX}{n:Int}(h:qO p q n):qO q p n:=⟨h.n1,h.n2,h.rq,h.rp,h.mq,h.mp⟩
theorem cH.symm{p q:aX}(h:cH p q):cH q p:=⟨h.sq,h.sp,h.qm,h.pm,h.CY,h.CV,h.qe,h.pe,h.qml,h.pml,h.abH,h.abG⟩
theorem zqx{p q:aX}{n:Int}:(fI p q n).1=0↔qO p q n:=by
 unfold fI
 by_cases h1:n<1
 ·rw[zT h1];exact⟨fun h=>(by cases h),fun h=>by have:=h.n1;omega⟩
 by_cases h2:65535<n
 ·rw[zF h1,zT h2];exact⟨fun h=>(by cases h),fun h=>by have:=h.n2;omega⟩
 rw[zF h1,zF h2,zD,zD]
 by_cases h3:(fM p).1=0
 case neg=>rw[zF h3];exact⟨fun h=>absurd h h3,fun h=>absurd h.rp h3⟩
 rw[zT h3,Bool.not_true,zD]
 by_cases h4:(dC p.2.1 p.1 q.1).1=0
 case neg=>rw[zF h4];exact⟨fun h=>absurd h h4,fun h=>absurd h.mp h4⟩
 rw[zT h4,Bool.not_true,zD]
 by_cases h5:(fM q).1=0
 case neg=>rw[zF h5];exact⟨fun h=>absurd h h5,fun h=>absurd h.rq h5⟩
 rw[zT h5,Bool.not_true,zD]
 by_cases h6:(dC q.2.1 q.1 p.1).1=0
 case neg=>rw[zF h6];exact⟨fun h=>absurd h h6,fun h=>absurd h.mq h6⟩
 rw[zT h6]
 exact⟨fun _=>⟨by omega,by omega,h3,h5,h4,h6⟩,fun _=>rfl⟩
theorem aj9{s:zg}{m:bK}(h:kH s m):2<=(jA s m).size:=by
 have ho:=(Bp s).1 h.iE
 have:=(ahG (s:=s) ho.1 (m:=m.1) (y:=bs []) h.right).2
 have hz:2<=iH s.1:=by unfold iH;split<;>omega
 unfold jA
 rw[Bu,Bu]
 omega
theorem Pe{s:zg}{m:bK}(h:kH s m):qF s m=(jA s m,kA):=by
 unfold qF
 rw[if_pos (Qj.2 h)]
theorem ahB{p q:aX}(h:cH p q){m:bK}(hm:eU m)(ht:(sd p.2.1 p.1 q.1 m).2.1=0):kH q.1 (sd p.2.1 p.1 q.1 m).1/\eU (sd p.2.1 p.1 q.1 m).1:=by
 rcases ac0 p.2.1 p.1 q.1 m with⟨f,hf,e⟩|⟨ys,hd,e⟩
 ·rw[e] at ht;exact absurd ht hf
 ·rw[e];exact⟨hd.out h.pm hm,hd.ok h.pm hm⟩
section
variable {p q:aX} {n:Int} (h:cH p q) (h0:qO p q n)
include h h0
theorem DS{m:bK}(hm:Part p.1 m)(f:bZ)(cl:List aX):kI m f p (cl,n,())=some (oh p n m f):=by
 unfold kI Vt oh
 rw[ahT p m f h.sp h.pe hm.ok,zc]
 unfold EZ
 cases hr:eH m.1 with
 |false=>rfl
 |true=>
  obtain⟨b1,b2,_⟩:=ajU (akV h0.rp) h.sp h.pe hm f.1 hr
  have hp:=aj9 b1
  rw[if_pos rfl,if_pos rfl]
  dsimp only
  rw[Bool.not_true,zD,Lz p.1 _ h.sp.iE b2.ok,zc,Pe b1]
  dsimp only
  rw[zF (fun e=>by rw[e] at hp;exact absurd hp (by decide)),zD]
  by_cases hn:n<((jA p.1 (sI p m f.1)).size:Int)
  ·rw[zT hn,if_pos hn];rfl
  ·rw[zF hn,if_neg hn];rfl
theorem PL(b:ByteArray)(hb:b.size<=1099511627776)(cl:List aX):((q7 p.1 b).bind fun r2=>(bif(!(decide (r2.2.1=(0:Int)))) then((kI r2.1 r2.2 p (cl,n,())).bind fun r3=>some (r3.1,r3.2)) else((re p.2.1 p.1 q.1 r2.1).bind fun r4=>(bif(!(decide (r4.2.1=(0:Int)))) then((kI r2.1 r4.2 p (cl,n,())).bind fun r5=>some (r5.1,r5.2)) else((n8 q.1 r4.1).bind fun r6=>(bif(decide (n<((r6.1).size:Int))) then((kI r2.1 ((5:Int),(129:Int),()) p (cl,n,())).bind fun r7=>some (r7.1,r7.2)) else some ((1:Int),r6.1)))))))=some (rN p q n b):=by
 have lq:=aj1 p.1 b hb
 have fm:=lq.ok
 rw[aej p.1 b h.sp.iE hb,zc]
 unfold rN CR
 by_cases hd:(mY p.1 b).2.1=0
 case neg=>rw[zF hd,Bool.not_false,zC,if_pos hd,DS h h0 lq,zc]
 rw[zT hd,Bool.not_true,zD,if_neg (fun e=>e hd),ab6 p.2.1 p.1 q.1 _ h.pm (by have:=h.pml;omega) fm (by have:=lq.len;omega) h.sp.iE h.sq.iE,zc]
 unfold CS
 by_cases ht:(sd p.2.1 p.1 q.1 (mY p.1 b).1).2.1=0
 case neg=>rw[zF ht,Bool.not_false,zC,if_pos ht,DS h h0 lq,zc]
 obtain⟨t1,t2⟩:=ahB h fm ht
 rw[zT ht,Bool.not_true,zD,if_neg (fun e=>e ht),Lz q.1 _ h.sq.iE t2,zc,Pe t1]
 dsimp only
 by_cases hn:n<((jA q.1 (sd p.2.1 p.1 q.1 (mY p.1 b).1).1).size:Int)
 ·rw[zT hn,zC,if_pos hn,DS h h0 lq,zc]
 ·rw[zF hn,zD,if_neg hn]
end
def ku(p q:aX)(n link:Int)(b:ByteArray):Int×ByteArray:=
 if¬(fI p q n).1=0 then(0,bs []) else if link=0 then rN p q n b else if link=1 then rN q p n b else(0,bs [])
theorem adf(p q:aX)(n link:Int)(b:ByteArray)(h:cH p q)(hb:b.size<=1099511627776):tu ([p,q],n,()) link b=some (ku p q n link b):=by
 unfold tu Vs ku
 rw[zee p q n h,zc]
 by_cases hc:(fI p q n).1=0
 case neg=>rw[zF hc,if_pos hc];rfl
 have h0:=zqx.1 hc
 rw[zT hc,Bool.not_true,zD,if_neg (fun e=>e hc)]
 by_cases l0:link=0
 ·subst l0
  rw[if_pos rfl,zF (by decide),zD,zF (by decide),zD]
  simp only[rQ,rR,vC,Gt,Gu]
  exact PL h h0 b hb [p,q]
 ·rw[if_neg l0]
  by_cases l1:link=1
  ·subst l1
   rw[if_pos rfl,zF (by decide),zD,zF (by decide),zD]
   simp only[rQ,rR,vD,Gt,Gu]
   exact PL h.symm h0.symm b hb [p,q]
  ·rw[if_neg l1]
   by_cases l2:link<0
   ·rw[zT l2];rfl
   ·rw[zF l2,zD,zT (by omega)];rfl
theorem adj(p q:aX)(n:Int)(h:cH p q):sY ([p,q],n,())=some (decide ((fI p q n).1=0)):=by
 unfold sY Ut
 rw[ac8 p q n h,zc]
theorem amI{c:FY}(hc:Wf WK c):∃p q n,c=([p,q],n,())/\∃g,mI c=some g/\(g=false->cH p q):=by
 obtain⟨p,q,e⟩:=ahF hc.1.1
 obtain⟨cl,n,u⟩:=c
 simp only[Prod.mk.injEq] at e
 obtain⟨rfl,_⟩:=e
 obtain⟨g,hg,fm⟩:=adL (p:=p) (q:=q) hc
 exact⟨p,q,n,rfl,g,hg,fm⟩
end bm

namespace bm
open Go.IntKind renaming wrap->zW,i64->zI,u8->zU
open Go Go.Ref
theorem Pg(m:Int):Is m=some (if m<1\/65535<m then .inl 5 else .inr (0,(m,false,[],()))):=by
 unfold Is X5
 by_cases h1:m<1
 ·simp [h1]
 ·by_cases h2:65535<m<;>simp [h1,h2]
def bj(m:Int)(l:List Int):Bool×List Int×List ByteArray:=l.foldl (aN m) (false,[],[])
theorem akf(m:Int)(l:List Int):∀(d:Bool) (b:List Int) (o:List ByteArray),l.foldl (aN m) (d,b,o)=((l.foldl (aN m) (d,b,[])).1,(l.foldl (aN m) (d,b,[])).2.1,o++(l.foldl (aN m) (d,b,[])).2.2):=by
 induction l with
 |nil=>intro d b o;simp
 |cons c r ih=>
  intro d b o
  rw[List.foldl_cons,List.foldl_cons]
  have h:aN m (d,b,o) c=((aN m (d,b,[]) c).1,(aN m (d,b,[]) c).2.1,o++(aN m (d,b,[]) c).2.2):=by
   unfold aN
   simp only
   split
   ·simp
   ·split
    ·simp
    ·split<;>simp
  rw[h,ih]
  generalize aN m (d,b,[]) c=st
  obtain⟨d',b',o'⟩:=st
  rw[ih d' b' o']
  simp
theorem agK(m:Int)(n:Nat)(r:List Int):∀(w:List Int) (o:List ByteArray),2<=w.length->cG w=n->w.length<2+n->
 r.foldl (aN m) (false,w,o)=if r.length<2+n-w.length then(false,w++r,o) else(r.drop (2+n-w.length)).foldl (aN m) (false,[],o++ [strOf ((w++r.take (2+n-w.length)).drop 2)]):=by
 induction r with
 |nil=>intro w o h1 h2 h3;simp;omega
 |cons c r ih=>
  intro w o h1 h2 h3
  rw[List.foldl_cons]
  have dm:cG (w++ [c])=n:=by
   rw[<-h2]
   unfold cG
   rw[if_neg (by simp;omega),if_neg (by omega)]
   have e:∀i,i<w.length->(w++ [c]).getD i 0=w.getD i 0:=fun i hi=>by
    rw[List.getD_eq_getElem?_getD,List.getElem?_append_left hi,List.getD_eq_getElem?_getD]
   rw[e 0 (by omega),e 1 (by omega)]
  have hlen:(w++ [c]).length=w.length+1:=by simp
  have hf:aN m (false,w,o) c=if w.length+1=2+n then(false,[],o++ [strOf ((w++ [c]).drop 2)]) else(false,w++ [c],o):=by
   unfold aN
   simp only[dm,hlen]
   rw[if_neg (by simp),if_neg (by omega)]
   by_cases e:w.length+1=2+n
   ·rw[if_pos e,if_pos ⟨by omega,by omega⟩]
   ·rw[if_neg e,if_neg (by omega)]
  rw[hf]
  by_cases e:w.length+1=2+n
  ·rw[if_pos e,if_neg (by simp;omega)]
   have:2+n-w.length=1:=by omega
   rw[this]
   simp
  ·rw[if_neg e,ih (w++ [c]) o (by simp;omega) dm (by simp;omega),hlen]
   have e2:2+n-w.length=(2+n-(w.length+1))+1:=by omega
   rw[e2]
   by_cases e3:r.length<2+n-(w.length+1)
   ·rw[if_pos e3,if_pos (by simp;omega)]
    simp
   ·rw[if_neg e3,if_neg (by simp;omega)]
    simp
theorem z182(m:Int):∀(n:Nat) (l:List Int) (pos:Int) (o:List ByteArray),l.length<=n->0<=pos->(∀x∈l,zm x)->
 l.foldl (aN m) (false,[],o)=(decide (0<=(cT m pos l).2.2.2),(cT m pos l).2.1,o++(cT m pos l).1):=by
 intro n
 induction n using Nat.strongRecOn with
 |_ n ih=>
 intro l pos o hn hp hb
 rw[cT]
 by_cases c0:l.length<2
 ·rw[dif_pos c0]
  match l,c0 with
  | [],_=>simp
  | [x],_=>simp [aN,cG]
 rw[dif_neg c0]
 match l,c0 with
 | [],c0=>exact absurd (by simp) c0
 | [x],c0=>exact absurd (by simp) c0
 |x::y::r,c0=>
  have hz:=G6 hb
  have AP:cG [x,y]=cG (x::y::r):=by
   unfold cG;rw[if_neg (by simp),if_neg (by simp)];rfl
  have h1:aN m (false,[],o) x=(false,[x],o):=by simp [aN,cG]
  rw[List.foldl_cons,List.foldl_cons,h1]
  have h2:aN m (false,[x],o) y=if cG (x::y::r)=0\/m<cG (x::y::r) then(true,[],o) else(false,[x,y],o):=by
   unfold aN
   have e1:([x]:List Int)++ [y]=[x,y]:=rfl
   simp only[e1,AP]
   rw[if_neg (by simp)]
   by_cases c1:cG (x::y::r)=0\/m<cG (x::y::r)
   ·rw[if_pos ⟨rfl,c1⟩,if_pos c1]
   ·rw[if_neg (fun h=>c1 h.2),if_neg c1,if_neg]
    intro h
    have:(([x,y]:List Int).length:Int)=2:=rfl
    omega
  rw[h2]
  by_cases c1:cG (x::y::r)=0\/m<cG (x::y::r)
  ·rw[if_pos c1,if_pos c1,G2]
   have:(0:Int)<=pos+2:=by omega
   simp [this]
  ·rw[if_neg c1,if_neg c1]
   generalize hzz:cG (x::y::r)=z at*
   have KY:0<z:=by omega
   rw[agK m z.toNat r [x,y] o (by simp) (by rw[AP];omega) (by simp;omega)]
   have e0:2+z.toNat-([x,y]:List Int).length=z.toNat:=by simp
   rw[e0]
   by_cases c3:((x::y::r).length:Int)-2<z
   ·rw[if_pos c3,if_pos (by simp at c3;omega)]
    simp
   ·rw[if_neg c3,if_neg (by simp at c3;omega)]
    have hd:(x::y::r).drop (2+z.toNat)=r.drop z.toNat:=by
     rw[Nat.add_comm];rfl
    have ht:((x::y::r).drop 2).take z.toNat=r.take z.toNat:=rfl
    have ht2:([x,y]++r.take z.toNat).drop 2=r.take z.toNat:=rfl
    rw[hd,ht,ht2]
    rw[ih (n-2) (by simp at hn;omega) (r.drop z.toNat) (pos+2+z) _ (by simp at hn⊢;omega) (by omega) (fun x hx=>hb x (by simp;exact .inr (.inr (List.mem_of_mem_drop hx))))]
    simp
theorem akS(m:Int)(l:List Int)(hb:∀x∈l,zm x):bj m l=(decide (0<=(cT m 0 l).2.2.2),(cT m 0 l).2.1,(cT m 0 l).1):=by
 unfold bj;rw[z182 m l.length l 0 [] (Nat.le_refl _) (by omega) hb];simp
theorem zp9(m:Int)(a b:List Int):bj m (a++b)=((b.foldl (aN m) ((bj m a).1,(bj m a).2.1,[])).1,(b.foldl (aN m) ((bj m a).1,(bj m a).2.1,[])).2.1,(bj m a).2.2++(b.foldl (aN m) ((bj m a).1,(bj m a).2.1,[])).2.2):=by
 unfold bj
 rw[List.foldl_append]
 generalize a.foldl (aN m) (false,[],[])=st
 obtain⟨d,c,o⟩:=st
 rw[akf]
def dJ(m:Int)(l:List Int):Fr:=(m,(bj m l).1,(bj m l).2.1,())
theorem agI(m:Int)(a b:List Int):feed (dJ m a) b=((b.foldl (aN m) ((bj m a).1,(bj m a).2.1,[])).2.2,decide ((bj m (a++b)).1=true/\(bj m a).1=false),dJ m (a++b)):=by
 unfold feed dJ
 rw[zp9]
theorem adJ(m:Int)(st:Bool×List Int×List ByteArray)(c:Int)(hc:zm c)(h:(∀x∈st.2.1,zm x)):∀x∈(aN m st c).2.1,zm x:=by
 unfold aN
 split
 ·exact h
 ·split
  ·simp
  ·split
   ·simp
   ·intro x hx
    rcases List.mem_append.1 hx with hx|hx
    ·exact h x hx
    ·simp at hx;subst hx;exact hc
theorem agJ(m:Int)(l:List Int):∀(st:Bool×List Int×List ByteArray),(∀x∈l,zm x)->(∀x∈st.2.1,zm x)->∀x∈(l.foldl (aN m) st).2.1,zm x:=by
 induction l with
 |nil=>intro st _ h;exact h
 |cons c r ih=>intro st hl h;exact ih _ (fun x hx=>hl x (by simp [hx])) (adJ m st c (hl c (by simp)) h)
theorem ahn(m:Int)(l:List Int)(h:∀x∈l,zm x):∀x∈(bj m l).2.1,zm x:=agJ m l _ h (by simp)
theorem TB(m:Int)(l:List Int):∀(st:Bool×List Int×List ByteArray),(l.foldl (aN m) st).2.1.length<=st.2.1.length+l.length/\(l.foldl (aN m) st).2.2.length<=st.2.2.length+l.length:=by
 induction l with
 |nil=>intro st;simp
 |cons c r ih=>
  intro st
  have h:(aN m st c).2.1.length<=st.2.1.length+1/\(aN m st c).2.2.length<=st.2.2.length+1:=by
   unfold aN
   split
   ·omega
   ·split
    ·simp
    ·split<;>simp
  have:=ih (aN m st c)
  simp only[List.foldl_cons,List.length_cons]
  omega
theorem zra(m:Int)(l:List Int):(bj m l).2.1.length<=l.length/\(bj m l).2.2.length<=l.length:=by
 have:=TB m l (false,[],[])
 simpa [bj] using this
theorem acj(m:Int)(a:List Int)(s:ByteArray)(ha:∀x∈a,zm x)(h:a.length+s.size<=4398046511104):BU (dJ m a) s=some (((bl s).foldl (aN m) ((bj m a).1,(bj m a).2.1,[])).2.2,decide ((bj m (a++bl s)).1=true/\(bj m a).1=false),dJ m (a++bl s)):=by
 rw[amZ _ _ (ahn m a ha) (by have:=(zra m a).1;simp only[dJ];omega),agI]
theorem akg(p:ByteArray)(h:p.size<=70000):BV p=some (if p.size<1\/65535<p.size then(bs [],5) else(strOf [(p.size:Int)/256,(p.size:Int)% 256]++p,0)):=by
 unfold BV X6
 by_cases h1:p.size<1
 ·rw[zT (by omega),if_pos (.inl h1)];rfl
 rw[zF (by omega),zD]
 by_cases h2:65535<p.size
 ·rw[zT (by omega),if_pos (.inr h2)];rfl
 rw[zF (by omega),if_neg (by omega),vG,zT (by simp;omega)]
 have e1:zW zU (Int.fdiv (p.size:Int) (2^min ((8:Int)).toNat 64))=(p.size:Int)/256:=by
  rw[Int.fdiv_eq_ediv_of_nonneg _ (by decide),E7]
  have:((2:Int)^min ((8:Int)).toNat 64)=256:=by decide
  rw[this];omega
 have e2:zW zU (p.size:Int)=(p.size:Int)% 256:=E7 _
 rw[e1,e2];rfl
section
variable {m:Map} {a b:zg} {x:bK} {ys:List bh}
end
end bm

namespace bm
open Go.IntKind renaming wrap->zW,i64->zI,u8->zU
open Go Go.Ref
section
variable {p q:aX} {n:Int} (h:cH p q) (h0:qO p q n)
include h
include h0
end
end bm

namespace bm
open Go.IntKind renaming wrap->zW,i64->zI,u8->zU
open Go Go.Ref
abbrev fp:=Int×Int×ByteArray×Int×Unit
abbrev Gw:=FY×(Option Fr×Option Fr)×Int
def CU(i:Int)(x:aV)(s:List aV)(K:List aV->Option (List aV×aX×aX)):Option (List aV×aX×aX):=
 bif(decide (x.2.2.2.2.1.length*32<=140737488355328)) then(bif(decide ((s.length+(List.length ([(x.1,x.2.1,x.2.2.1,x.2.2.2.1,x.2.2.2.2.1,())]:List aV)))*64<=140737488355328)) then K (s++ [(x.1,x.2.1,x.2.2.1,x.2.2.2.1,x.2.2.2.2.1,())]) else none) else none
theorem O0(b1 b2:aX):∀(l:List aV) (i:Int) (s:List aV),(∀r∈l,dX r)->s.length+l.length<=1000000->bk CU (fun s=>some (s,b1,b2)) l i s=some (s++l,b1,b2)
 | [],i,s,_,_=>by rw[List.append_nil];rfl
 |x::l,i,s,h,hl=>by
  have hp:=(h x (by simp)).fk.len
  simp only[List.length_cons] at hl
  rw[bk,CU,zT (by omega),zC,zT (by simp only[List.length_cons,List.length_nil];omega),zC,O0 b1 b2 l (i+1) _ (fun r hr=>h r (by simp [hr])) (by simp;omega)]
  rw[List.append_assoc];rfl
theorem PI(s:aX)(h:cZ s)(hm:dM s.2.1)(h2:s.1.2.2.1.length<=200):IC s=some s:=by
 have he:=h.oo
 have hc:=h.fY
 have hl:=hm.len
 have ht:=hm.np.len
 unfold IC Yh
 rw[zT (by omega),zC,zT (by omega),zC,zT (by omega),zC,zT (by omega),zC]
 have:=cw ((0:Int),(0:Int),(0:Int),bs [],([]:List bA),()) s.2.1.2.1 (by rw[zi];omega) CU (fun l=>some (l,(s.1,s.2.1,s.2.2.1,s.2.2.2.1,()),qC))
  (fun k i l=>RE k l s.2.1.2.1 (s.2.1.2.1.length:Int) i (s.1,s.2.1,s.2.2.1,s.2.2.2.1,()) qC) (fun k i l=>rfl) []
 dsimp only
 refine(congrArg (fun o=>Option.bind o _) (this.trans (O0 _ _ s.2.1.2.1 0 [] hm.rules (by simp;omega)))).trans ?_
 rw[zc,List.nil_append]
 unfold Yi
 rw[zT (by show s.2.2.1.length*8<=_;omega),zC,zT (by show s.2.2.2.1.length*24<=_;omega),zC]
def gw(c:FY)(n:Int)(x y:ByteArray)(d:Int):Gw:=(c,(some (dJ n (bl x)),some (dJ n (bl y))),d)
theorem ahY(p q:aX)(n:Int)(h:cH p q):yD ([p,q],n,())=some (if(fI p q n).1=0 then .inr (0,gw ([p,q],n,()) n (bs []) (bs []) 0) else .inl 1):=by
 obtain⟨k,hk⟩:=HL
 unfold yD Ye
 rw[zee p q n h,zc]
 by_cases h0:(fI p q n).1=0
 case neg=>rw[zF h0,if_neg h0];rfl
 rw[zT h0,if_pos h0,Bool.not_true,zD,hk]
 have hc:=zqx.1 h0
 have hn:¬(n<1\/65535<n):=fun e=>by have:=hc.n1;have:=hc.n2;omega
 unfold F8 HC
 simp only[rQ,rR,vC,vD,Bf,Bg,gp,gq,Gt,Gu,qA,qB]
 rw[zT (by decide:(0:Int)<2),zC,PI p h.sp h.pm h.CV,zc,Pg,zc,if_neg hn,Sum.elim_inr]
 dsimp only
 unfold F8 HC
 simp only[rQ,rR,vC,vD,Bf,Bg,gp,gq,Gt,Gu,qA,qB]
 rw[zT (by decide:(1:Int)<2),zC,PI q h.sq h.qm h.CY,zc,Pg,zc,if_neg hn,Sum.elim_inr]
 dsimp only
 unfold F8 HC
 rw[zF (by decide:¬(2:Int)<2),zD]
 rfl
abbrev Ev:=Int×ByteArray×Unit
abbrev Item:=Int×Option ByteArray
def xP(b:ByteArray):ByteArray:=if b.size<1\/65535<b.size then bs [] else strOf [(b.size:Int)/256,(b.size:Int)% 256]++b
theorem agL(b:ByteArray)(h:b.size<=70000):∃e,BV b=some (xP b,e):=by
 rw[akg b h]
 unfold xP
 by_cases hb:b.size<1\/65535<b.size
 ·rw[if_pos hb,if_pos hb];exact⟨_,rfl⟩
 ·rw[if_neg hb,if_neg hb];exact⟨_,rfl⟩
theorem zhq{n:Int}(hn:n<=65535)(p:aX)(m:bK)(f:bZ):(oh p n m f).2.size<=65535:=by
 unfold oh
 split
 ·split
  ·exact Nat.zero_le _
  ·rename_i h
   show(jA p.1 (sI p m f.1)).size<=65535
   omega
 ·exact Nat.zero_le _
theorem MA{n:Int}(hn:n<=65535)(p q:aX)(b:ByteArray):(rN p q n b).2.size<=65535:=by
 unfold rN CR
 split
 ·exact zhq hn _ _ _
 ·unfold CS
  split
  ·exact zhq hn _ _ _
  ·split
   ·exact zhq hn _ _ _
   ·rename_i h
    show(jA q.1 _).size<=65535
    omega
theorem ag9{p q:aX}{n:Int}(link:Int)(b:ByteArray):(ku p q n link b).2.size<=65535:=by
 unfold ku
 split
 ·exact Nat.zero_le _
 ·rename_i h
  have h0:=zqx.1 (Decidable.not_not.1 h)
  split
  ·exact MA h0.n2 _ _ _
  ·split
   ·exact MA h0.n2 _ _ _
   ·exact Nat.zero_le _
def xN(p q:aX)(n link d:Int)(b:ByteArray):fp×Int:=
 if(ku p q n link b).1=3 then((link,3,bs [],zW zI (d+1),()),zW zI (d+1))
 else if(ku p q n link b).1=1 then((zW zI (1-link),1,xP (ku p q n link b).2,d,()),d)
 else((link,(ku p q n link b).1,xP (ku p q n link b).2,d,()),d)
theorem adW(p q:aX)(n link d:Int)(b:ByteArray)(m:Option Fr×Option Fr)(h:cH p q)(hb:b.size<=1099511627776):
 Gl (([p,q],n,()),m,d) link b=some ((xN p q n link d b).1,(([p,q],n,()),m,(xN p q n link d b).2)):=by
 unfold Gl Yc xN
 rw[adf p q n link b h hb,zc]
 have hs:=ag9 (p:=p) (q:=q) (n:=n) link b
 obtain⟨e,hp⟩:=agL _ (show(ku p q n link b).2.size<=70000 by omega)
 generalize ku p q n link b=r at hs hp⊢
 by_cases h3:r.1=3
 ·rw[zT h3,if_pos h3,zC,h3]
 rw[zF h3,if_neg h3,zD]
 by_cases h1:r.1=1
 ·rw[zT h1,if_pos h1,zC,hp,zc,h1]
 ·rw[zF h1,if_neg h1,zD,hp,zc]
def qD(p q:aX)(n d:Int)(it:Item):fp×Int:=match it.2 with
 |some b=>xN p q n it.1 d b
 |none=>((it.1,4,bs [],d,()),d)
def b7(p q:aX)(n:Int):Int->List Item->List fp×Int
 |d,[]=>([],d)
 |d,it::r=>((qD p q n d it).1::(b7 p q n (qD p q n d it).2 r).1,(b7 p q n (qD p q n d it).2 r).2)
theorem z9w(p q:aX)(n:Int):∀(a b:List Item) (d:Int),b7 p q n d (a++b)=((b7 p q n d a).1++(b7 p q n (b7 p q n d a).2 b).1,(b7 p q n (b7 p q n d a).2 b).2)
 | [],b,d=>rfl
 |it::a,b,d=>by
  rw[List.cons_append,b7,b7,z9w p q n a b]
  rfl
theorem PR(p q:aX)(n:Int):∀(a:List Item) (d:Int),(b7 p q n d a).1.length=a.length
 | [],d=>rfl
 |it::a,d=>by rw[b7,List.length_cons,List.length_cons,PR p q n a]
def zq(n:Int)(a:List Int):List (Option ByteArray):=(bj n a).2.2.map some++if(bj n a).1=true then [none] else []
def dS(n:Int)(a b:List Int):List (Option ByteArray):=(zq n (a++b)).drop (zq n a).length
theorem zec(n:Int)(a b:List Int):zq n (a++b)=zq n a++((b.foldl (aN n) ((bj n a).1,(bj n a).2.1,[])).2.2.map some++if decide ((bj n (a++b)).1=true/\(bj n a).1=false)=true then [none] else []):=by
 unfold zq
 have xm:=zp9 n a b
 cases hd:(bj n a).1 with
 |true=>
  rw[hd,G2] at xm
  rw[G2,xm]
  simp
 |false=>
  rw[hd] at xm
  have e1:(bj n (a++b)).2.2=(bj n a).2.2++(b.foldl (aN n) (false,(bj n a).2.1,[])).2.2:=by rw[xm]
  rw[e1]
  simp
theorem DQ(n:Int)(a b:List Int):dS n a b=(b.foldl (aN n) ((bj n a).1,(bj n a).2.1,[])).2.2.map some++if decide ((bj n (a++b)).1=true/\(bj n a).1=false)=true then [none] else []:=by
 unfold dS
 rw[zec,List.drop_left]
theorem x6(n:Int)(a b:List Int):zq n (a++b)=zq n a++dS n a b:=by rw[DQ,<-zec]
theorem acX(n:Int)(a b c:List Int):dS n a (b++c)=dS n a b++dS n (a++b) c:=by
 have h1:=x6 n a (b++c)
 have h2:=x6 n (a++b) c
 rw[<-List.append_assoc,h2,x6 n a b,List.append_assoc] at h1
 exact(List.append_cancel_left h1).symm
theorem akB(n:Int)(a:List Int):dS n a []=[]:=by unfold dS;rw[List.append_nil,List.drop_length]
theorem Ft(n:Int)(a b:List Int):(dS n a b).length<=b.length+1:=by
 rw[DQ]
 have:=(TB n b ((bj n a).1,(bj n a).2.1,[])).2
 rw[List.length_append,List.length_map]
 split
 ·simp at this⊢;omega
 ·simp at this⊢;omega
def tZ(k:Int)(i:Int)(x:ByteArray)(s:List fp×Gw)(K:List fp×Gw->Option (List fp×Bool×Gw×Ev)):Option (List fp×Bool×Gw×Ev):=
 (Gl s.2 k x).bind fun r4=>(bif(decide ((s.1.length+(List.length ([r4.1]:List fp)))*40<=140737488355328)) then K (s.1++([r4.1]:List fp),r4.2) else none)
theorem Nj(p q:aX)(n k:Int)(h:cH p q)(m:Option Fr×Option Fr)(b:Bool)(e:Ev):∀(l:List ByteArray) (i:Int) (s:List fp) (d:Int),(∀x∈l,x.size<=1099511627776)->s.length+l.length<=3000000000000->
 bk (tZ k) (fun s=>some (s.1,b,s.2,e)) l i (s,(([p,q],n,()),m,d))=some (s++(b7 p q n d (l.map fun x=>(k,some x))).1,b,(([p,q],n,()),m,(b7 p q n d (l.map fun x=>(k,some x))).2),e)
 | [],i,s,d,_,_=>by rw[List.map_nil,b7,List.append_nil];rfl
 |x::l,i,s,d,hb,hl=>by
  simp only[List.length_cons] at hl
  rw[bk,tZ,adW p q n k d x m h (hb x (by simp)),zc,zT (by simp only[List.length_cons,List.length_nil];omega),zC,
   Nj p q n k h m b e l (i+1) _ _ (fun y hy=>hb y (by simp [hy])) (by simp;omega),List.map_cons,b7,List.append_assoc]
  rfl
theorem A0(k:Int):BW k=some (decide (k=0\/k=1)):=by
 unfold BW Yf
 by_cases h:k=0
 ·simp [h]
 ·simp [h]
def dq(n:Int)(xy:ByteArray×ByteArray)(e:Ev):List Item×(ByteArray×ByteArray):=
 if e.1=0 then((dS n (bl xy.1) (bl e.2.1)).map fun i=>((0:Int),i),(xy.1++e.2.1,xy.2))
 else if e.1=1 then((dS n (bl xy.2) (bl e.2.1)).map fun i=>((1:Int),i),(xy.1,xy.2++e.2.1))
 else([],xy)
theorem ad0(m:Int)(l:List Int):∀(st:Bool×List Int×List ByteArray),∀x∈(l.foldl (aN m) st).2.2,x∈st.2.2\/x.size<=st.2.1.length+l.length:=by
 induction l with
 |nil=>intro st x hx;exact .inl hx
 |cons c r ih=>
  intro st x hx
  have h:(aN m st c).2.1.length<=st.2.1.length+1/\∀y∈(aN m st c).2.2,y∈st.2.2\/y.size<=st.2.1.length+1:=by
   unfold aN
   split
   ·exact⟨by omega,fun y hy=> .inl hy⟩
   ·split
    ·exact⟨by simp,fun y hy=> .inl hy⟩
    ·split
     ·refine⟨by simp,fun y hy=> ?_⟩
      rcases List.mem_append.1 hy with hy|hy
      ·exact .inl hy
      ·right
       have:y=strOf ((st.2.1++ [c]).drop 2):=by simpa using hy
       rw[this,vG,List.length_drop,List.length_append,List.length_cons,List.length_nil]
       omega
     ·exact⟨by simp,fun y hy=> .inl hy⟩
  rcases ih (aN m st c) x hx with h1|h1
  ·rcases h.2 x h1 with h2|h2
   ·exact .inl h2
   ·right;simp;omega
  ·right;have:=h.1;simp;omega
theorem L8(p q:aX)(n k:Int)(h:cH p q)(a c:ByteArray)(m:Option Fr×Option Fr)(d:Int)(hs:a.size+c.size<=1000000000000)(F:List fp×Bool×Gw×Ev->Option (List fp×Gw)):
 ((BU (dJ n (bl a)) c).bind fun r3=>(HB ag ([]:List fp) r3.2.1 r3.1 ((List.length r3.1):Int) (0:Int) (([p,q],n,()),((fN k.toNat (some r3.2.2) m),d)) (k,c,())).bind F)=
   F ((b7 p q n d (((bl c).foldl (aN n) ((bj n (bl a)).1,(bj n (bl a)).2.1,[])).2.2.map fun x=>(k,some x))).1,decide ((bj n (bl a++bl c)).1=true/\(bj n (bl a)).1=false),(([p,q],n,()),fN k.toNat (some (dJ n (bl (a++c)))) m,(b7 p q n d (((bl c).foldl (aN n) ((bj n (bl a)).1,(bj n (bl a)).2.1,[])).2.2.map fun x=>(k,some x))).2),(k,c,())):=by
 have hla:=zf a
 have hlc:=zf c
 rw[acj n (bl a) c (fun x hx=>jI hx) (by omega),zc]
 dsimp only
 generalize hl:((bl c).foldl (aN n) ((bj n (bl a)).1,(bj n (bl a)).2.1,[])).2.2=l
 have hlen:l.length<=c.size:=by
  have:=(TB n (bl c) ((bj n (bl a)).1,(bj n (bl a)).2.1,[])).2
  rw[hl] at this
  simp only[List.length_nil] at this;omega
 have dm:∀x∈l,x.size<=1099511627776:=fun x hx=>by
  rw[<-hl] at hx
  have h1:=(zra n (bl a)).1
  rcases ad0 n (bl c) _ x hx with h2|h2
  ·cases h2
  ·simp only at h2;omega
 have:=cw (bs []) l (by rw[zi];omega) (tZ k) (fun s=>some (s.1,decide ((bj n (bl a++bl c)).1=true/\(bj n (bl a)).1=false),s.2,(k,c,())))
  (fun j i s=>HB j s.1 (decide ((bj n (bl a++bl c)).1=true/\(bj n (bl a)).1=false)) l (l.length:Int) i s.2 (k,c,())) (fun j i s=>rfl) ([],(([p,q],n,()),(fN k.toNat (some (dJ n (bl a++bl c))) m,d)))
 refine(congrArg (fun o=>Option.bind o F) (this.trans (Nj p q n k h _ _ _ l 0 [] d dm (by simp;omega)))).trans ?_
 rw[zc,List.nil_append,qI]
theorem aek(p q:aX)(n d:Int)(h:cH p q)(x y:ByteArray)(e:Ev)(hs:x.size+y.size+e.2.1.size<=1000000000000):
 Gk (gw ([p,q],n,()) n x y d) e=some ((b7 p q n d (dq n (x,y) e).1).1,gw ([p,q],n,()) n (dq n (x,y) e).2.1 (dq n (x,y) e).2.2 (b7 p q n d (dq n (x,y) e).1).2):=by
 obtain⟨k,c,u⟩:=e
 cases u
 dsimp only at hs
 unfold Gk X8
 rw[A0,zc]
 have fin:∀(a:ByteArray) (m:Option Fr×Option Fr),a.size+c.size<=1000000000000->k=0\/k=1->
  RC (b7 p q n d (((bl c).foldl (aN n) ((bj n (bl a)).1,(bj n (bl a)).2.1,[])).2.2.map fun x=>(k,some x))).1 (decide ((bj n (bl a++bl c)).1=true/\(bj n (bl a)).1=false)) (([p,q],n,()),m,(b7 p q n d (((bl c).foldl (aN n) ((bj n (bl a)).1,(bj n (bl a)).2.1,[])).2.2.map fun x=>(k,some x))).2) (k,c,()) (fun a0 a1=>some (a0,a1))=
  some ((b7 p q n d ((dS n (bl a) (bl c)).map fun i=>(k,i))).1,(([p,q],n,()),m,(b7 p q n d ((dS n (bl a) (bl c)).map fun i=>(k,i))).2)):=fun a m hs hk=>by
  have hlc:=zf c
  have hlen:=(TB n (bl c) ((bj n (bl a)).1,(bj n (bl a)).2.1,[])).2
  rw[DQ,List.map_append,List.map_map,z9w]
  unfold RC
  generalize hl:((bl c).foldl (aN n) ((bj n (bl a)).1,(bj n (bl a)).2.1,[])).2.2=l at hlen⊢
  simp only[List.length_nil] at hlen
  have e1:((fun i=>(k,i))∘some:ByteArray->Item)=fun x=>(k,some x):=rfl
  rw[e1]
  cases decide ((bj n (bl a++bl c)).1=true/\(bj n (bl a)).1=false) with
  |false=>
   rw[zD,if_neg (by simp)]
   simp [b7]
  |true=>
   rw[zC,if_pos rfl,PR,List.length_map,zT (by simp only[List.length_cons,List.length_nil];omega),zC]
   simp [b7,qD]
 by_cases h0:k=0
 ·subst h0
  rw[zT (.inl rfl),Bool.not_true,zD]
  dsimp only
  rw[rQ]
  show(getM (0:Int).toNat (some (dJ n (bl x)),some (dJ n (bl y)))).bind _=_
  rw[show getM (0:Int).toNat (some (dJ n (bl x)),some (dJ n (bl y)))=some (dJ n (bl x)) from rfl,zc]
  refine(L8 p q n 0 h x c (some (dJ n (bl x)),some (dJ n (bl y))) d (by omega) _).trans ?_
  dsimp only
  rw[fin x _ (by omega) (.inl rfl)]
  rfl
 by_cases h1:k=1
 ·subst h1
  rw[zT (.inr rfl),Bool.not_true,zD]
  dsimp only
  rw[rR]
  show(getM (1:Int).toNat (some (dJ n (bl x)),some (dJ n (bl y)))).bind _=_
  rw[show getM (1:Int).toNat (some (dJ n (bl x)),some (dJ n (bl y)))=some (dJ n (bl y)) from rfl,zc]
  refine(L8 p q n 1 h y c (some (dJ n (bl x)),some (dJ n (bl y))) d (by omega) _).trans ?_
  dsimp only
  rw[fin y _ (by omega) (.inr rfl)]
  rfl
 ·rw[zF (fun e=>e.elim h0 h1),Bool.not_false,zC]
  unfold dq
  rw[if_neg h0,if_neg h1]
  rfl
def ja(l:List Ev):Nat:=(l.map fun e=>e.2.1.size).sum
theorem Bk(e:Ev)(l:List Ev):ja (e::l)=e.2.1.size+ja l:=by simp [ja]
theorem zef(a b:List Ev):ja (a++b)=ja a+ja b:=by simp [ja]
theorem Mu(n:Int)(x y:ByteArray)(e:Ev):(dq n (x,y) e).2.1.size+(dq n (x,y) e).2.2.size<=x.size+y.size+e.2.1.size/\(dq n (x,y) e).1.length<=e.2.1.size+1:=by
 unfold dq
 split
 ·have:=Ft n (bl x) (bl e.2.1)
  rw[zf] at this
  exact⟨by simp [ByteArray.size_append];omega,by simpa using this⟩
 ·split
  ·have:=Ft n (bl y) (bl e.2.1)
   rw[zf] at this
   exact⟨by simp [ByteArray.size_append];omega,by simpa using this⟩
  ·exact⟨by simp,by simp⟩
def bB(n:Int):ByteArray×ByteArray->List Ev->List Item×(ByteArray×ByteArray)
 |xy,[]=>([],xy)
 |xy,e::r=>((dq n xy e).1++(bB n (dq n xy e).2 r).1,(bB n (dq n xy e).2 r).2)
theorem Fb(n:Int):∀(a b:List Ev) (xy:ByteArray×ByteArray),bB n xy (a++b)=((bB n xy a).1++(bB n (bB n xy a).2 b).1,(bB n (bB n xy a).2 b).2)
 | [],b,xy=>rfl
 |e::a,b,xy=>by rw[List.cons_append,bB,bB,Fb n a b,List.append_assoc]
theorem Mm(n:Int):∀(l:List Ev) (x y:ByteArray),(bB n (x,y) l).2.1.size+(bB n (x,y) l).2.2.size<=x.size+y.size+ja l/\(bB n (x,y) l).1.length<=l.length+ja l
 | [],x,y=>⟨by simp [bB],by simp [bB]⟩
 |e::l,x,y=>by
  have h1:=Mu n x y e
  have h2:=Mm n l (dq n (x,y) e).2.1 (dq n (x,y) e).2.2
  rw[bB,Bk,List.length_cons]
  dsimp only
  rw[List.length_append]
  have e2:((dq n (x,y) e).2.1,(dq n (x,y) e).2.2)=(dq n (x,y) e).2:=rfl
  rw[e2] at h2
  exact⟨by omega,by omega⟩
def C1(i:Int)(e:Ev)(s:List fp×Gw)(K:List fp×Gw->Option (List fp×Gw)):Option (List fp×Gw):=
 (Gk s.2 e).bind fun r1=>(bif(decide ((s.1.length+r1.1.length)*40<=140737488355328)) then K (s.1++r1.1,r1.2) else none)
section
variable (p q:aX) (n:Int) (h:cH p q)
include h
theorem O5:∀(l:List Ev) (i:Int) (s:List fp) (x y:ByteArray) (d:Int),x.size+y.size+ja l<=1000000000000->s.length+l.length+ja l<=3000000000000->
 bk C1 (fun s=>some s) l i (s,gw ([p,q],n,()) n x y d)=some (s++(b7 p q n d (bB n (x,y) l).1).1,gw ([p,q],n,()) n (bB n (x,y) l).2.1 (bB n (x,y) l).2.2 (b7 p q n d (bB n (x,y) l).1).2)
 | [],i,s,x,y,d,_,_=>by rw[bB,b7,List.append_nil];rfl
 |e::l,i,s,x,y,d,h1,h2=>by
  rw[Bk] at h1 h2
  rw[List.length_cons] at h2
  have hz:=Mu n x y e
  rw[bk,C1,aek p q n d h x y e (by omega),zc,PR,zT (by dsimp only;omega),zC,
   O5 l (i+1) _ _ _ _ (by omega) (by dsimp only;rw[List.length_append,PR];omega),bB,z9w,List.append_assoc]
theorem M4(x y:ByteArray)(d:Int)(l:List Ev)(hs:x.size+y.size+ja l<=1000000000000)(hl:l.length<=1000000000000):
 yC (gw ([p,q],n,()) n x y d) l=some ((b7 p q n d (bB n (x,y) l).1).1,gw ([p,q],n,()) n (bB n (x,y) l).2.1 (bB n (x,y) l).2.2 (b7 p q n d (bB n (x,y) l).1).2):=by
 unfold yC Yb
 dsimp only
 have:=cw ((0:Int),bs [],()) l (by rw[zi];omega) C1 (fun s=>some s) (fun k i s=>RD k s.1 l (l.length:Int) i s.2) (fun k i s=>rfl) ([],gw ([p,q],n,()) n x y d)
 refine(congrArg (fun o=>Option.bind o _) (this.trans (O5 p q n h l 0 [] x y d hs (by simp;omega)))).trans ?_
 rw[zc,List.nil_append]
 rfl
end
theorem S8(c:FY)(n:Int)(x y:ByteArray)(d k:Int):vl (gw c n x y d) k=some (if k=0 then((bj n (bl x)).2.1.length:Int) else if k=1 then((bj n (bl y)).2.1.length:Int) else 0,gw c n x y d):=by
 unfold vl X9
 rw[A0,zc]
 by_cases h0:k=0
 ·subst h0;rw[if_pos rfl,zT (.inl rfl),Bool.not_true,zD,rQ];rfl
 by_cases h1:k=1
 ·subst h1;rw[if_neg h0,if_pos rfl,zT (.inr rfl),Bool.not_true,zD,rR];rfl
 ·rw[if_neg h0,if_neg h1,zF (fun e=>e.elim h0 h1)];rfl
theorem DJ:nD=some true:=by kernel_rfl
def YQ(most:Int)(i:Int)(x:Ev)(s:Int)(K:Int->Option (Sum J1 (Int×Int))):Option (Sum J1 (Int×Int)):=
 bif(decide (most<s)) then some (.inl (most,true,s)) else(bif(decide (most<(x.2.1.size:Int))) then some (.inl (most,true,s)) else K (zW zI (s+(x.2.1.size:Int))))
theorem Me(most:Int)(h0:0<=most)(h1:most<=1000000):∀(l:List Ev) (i:Int) (s:Nat),∃r,bk (YQ most) (fun s=>some (.inr (most,s))) l i (s:Int)=some r/\(∀z,r= .inl z->z.2.1=true)/\∀z,r= .inr z->z=(most,((s+ja l:Nat):Int))
 | [],i,s=>⟨_,rfl,fun z hz=>(by cases hz),fun z hz=>(by cases hz;rfl)⟩
 |x::l,i,s=>by
  rw[bk,YQ,Bk]
  by_cases h2:most<(s:Int)
  ·rw[zT h2]
   exact⟨_,rfl,fun z hz=>(by cases hz;rfl),fun z hz=>(by cases hz)⟩
  rw[zF h2,zD]
  by_cases h3:most<(x.2.1.size:Int)
  ·rw[zT h3]
   exact⟨_,rfl,fun z hz=>(by cases hz;rfl),fun z hz=>(by cases hz)⟩
  rw[zF h3,zD,zj (by omega) (by omega),show(s:Int)+(x.2.1.size:Int)=((s+x.2.1.size:Nat):Int) by omega]
  obtain⟨r,e1,e2,e3⟩:=Me most h0 h1 l (i+1) (s+x.2.1.size)
  exact⟨r,e1,e2,fun z hz=>by rw[e3 z hz,Nat.add_assoc]⟩
theorem am2(l:List Ev)(most:Int)(h0:0<=most)(h1:most<=1000000)(hl:l.length<=maxLen):∃b,lP l most=some b/\(b=false->((l.length+ja l:Nat):Int)<=most):=by
 unfold lP QE
 dsimp only
 have:=ly ((0:Int),bs [],()) l hl (YQ most) (fun s=>some (.inr (most,s))) (fun k i s=>QD k l most s i)
  (fun k i s hi oC=>by
    show FJ l most s i _ _ _=_
    unfold FJ YQ
    rw[zT oC,zC,zn hi oC,zn hi oC])
  (fun k s=>by
    show FJ l most s _ _ _ _=_
    unfold FJ
    rw[zF (by omega)];rfl) (l.length:Int)
 obtain⟨r,e1,e2,e3⟩:=Me most h0 h1 l 0 l.length
 rw[this,e1,zc]
 rcases r with z|z
 ·refine⟨z.2.1,rfl,fun hb=> ?_⟩
  rw[e2 z rfl] at hb
  cases hb
 ·rw[e3 z rfl]
  refine⟨_,rfl,fun hb=> ?_⟩
  have:=of_decide_eq_false hb
  omega
theorem OU(p q:aX)(n:Int){g b:Bool}(hg:mI ([p,q],n,())=some g)(fm:g=false->cH p q){l:List Ev}{most:Int}(hb:lP l most=some b):
 yE ([p,q],n,()) l most=some (bif g||b|| !decide ((fI p q n).1=0) then .inl () else .inr (true,gw ([p,q],n,()) n (bs []) (bs []) 0)):=by
 unfold yE Yk
 rw[hg,zc]
 cases g with
 |true=>rfl
 |false=>
  have h:=fm rfl
  rw[zD,hb,zc]
  cases b with
  |true=>rfl
  |false=>
   rw[zD,adj p q n h,zc]
   by_cases h0:(fI p q n).1=0
   case neg=>rw[zF h0];rfl
   rw[zT h0,Bool.not_true,zD,aei p q n h,zc,ahY p q n h,zc,if_pos h0]
   rfl
abbrev tEv:Ty:= .pair (.int .i64) (.pair .str .unit)
theorem amJ{c:FY}(hc:Wf WK c){l:List Ev}(hl:Wf (.sl 0 tEv) l)(most:Int)(h0:0<=most)(h1:most<=1000000):
 ∃p q n g b,c=([p,q],n,())/\mI c=some g/\(g=false->cH p q)/\lP l most=some b/\(b=false->((l.length+ja l:Nat):Int)<=most)/\
  yE c l most=some (bif g||b|| !decide ((fI p q n).1=0) then .inl () else .inr (true,gw ([p,q],n,()) n (bs []) (bs []) 0)):=by
 obtain⟨p,q,n,rfl,g,hg,fm⟩:=amI hc
 obtain⟨b,hb,hs⟩:=am2 l most h0 h1 hl.1
 exact⟨p,q,n,g,b,rfl,hg,fm,hb,hs,OU p q n hg fm hb⟩
end bm

namespace bm
open Go.IntKind renaming wrap->zW,i64->zI,u8->zU
open Go Go.Ref
theorem OJ{l:List Ev}{j:Nat}(h:j<l.length):l.getD ((j:Int)).toNat ((0:Int),bs [],())=l[j]:=by
 rw[Int.toNat_natCast,List.getD_eq_getElem?_getD,List.getElem?_eq_getElem h];rfl
section
variable (p q:aX) (n:Int) (h:cH p q) (hc:(fI p q n).1=0)
include h hc
omit h hc in
end
end bm

namespace bm
open Go.IntKind renaming wrap->zW,i64->zI,u8->zU
open Go Go.Ref
theorem afY(a b:List fp)(h:a.length<=maxLen):nY a b=some (decide (a=b)):=by
 unfold nY UI
 by_cases hl:a.length=b.length
 ·rw[zT (by omega)]
  simp only[Bool.not_true,zD]
  rw[aho ((0:Int),(0:Int),bs [],(0:Int),()) (fun x y=>(decide (x.1=y.1))&&((decide (x.2.1=y.2.1))&&((decide (x.2.2.1=y.2.2.1))&&((decide (x.2.2.2.1=y.2.2.2.1))&&true)))) (fun x y=>by
   obtain⟨x1,x2,x3,x4,x5⟩:=x
   obtain⟨y1,y2,y3,y4,y5⟩:=y
   simp) a b hl h (fun k i=>QG k a b i) (fun k i=>rfl)]
  by_cases e:a=b
  ·simp [e,UK]
  ·simp [e,UJ]
 ·rw[zF (by omega)]
  have:a≠b:=fun e=>hl (by rw[e])
  simp [this]
theorem acQ:lP [] 0=some false:=by
 obtain⟨k,hk⟩:=HL
 unfold lP QE
 rw[hk]
 rfl
section
variable (p q:aX) (n:Int) (h:cH p q) (hc:(fI p q n).1=0)
include h hc
end
end bm

namespace bm
open Go.IntKind renaming wrap->zW,i64->zI,u8->zU
open Go Go.Ref
theorem Bm(n:Int):zq n []=[]:=by simp [zq,bj]
theorem GY(n pos:Int)(l:List Int)(hp:0<=pos)(hb:∀x∈l,zm x):zq n l=(cT n pos l).1.map some++if 0<=(cT n pos l).2.2.2 then [none] else []:=by
 unfold zq bj
 rw[z182 n l.length l pos [] (Nat.le_refl _) hp hb]
 simp
theorem zb6(n:Int)(l:List Int)(hb:∀x∈l,zm x)(h:l.length<2):zq n l=[]:=by
 rw[GY n 0 l (by omega) hb,cT,dif_pos h];rfl
theorem Ml(n:Int)(l:List Int)(hb:∀x∈l,zm x)(h:¬l.length<2)(hz:cG l=0\/n<cG l):zq n l=[none]:=by
 rw[GY n 0 l (by omega) hb,cT,dif_neg h,if_pos hz];rfl
theorem zvw(n:Int)(l:List Int)(hb:∀x∈l,zm x)(h:¬l.length<2)(hz:¬(cG l=0\/n<cG l))(hl:(l.length:Int)-2<cG l):zq n l=[]:=by
 rw[GY n 0 l (by omega) hb,cT,dif_neg h,if_neg hz,if_pos hl];rfl
theorem zvv(n:Int)(l:List Int)(hb:∀x∈l,zm x)(h:¬l.length<2)(hz:¬(cG l=0\/n<cG l))(hl:¬(l.length:Int)-2<cG l):
 zq n l=some (strOf ((l.drop 2).take (cG l).toNat))::zq n (l.drop (2+(cG l).toNat)):=by
 have hr:=G6 hb
 rw[GY n 0 l (by omega) hb,cT,dif_neg h,if_neg hz,if_neg hl,GY n (0+2+cG l) (l.drop (2+(cG l).toNat)) (by omega) (fun x hx=>hb x (List.mem_of_mem_drop hx))]
 rfl
theorem NS(l:List Int)(b:Nat)(hb:2<=b):cG (l.take b)=cG l:=by
 match l,b,hb with
 | [],_,_=>rw[List.take_nil]
 | [x],b+2,_=>rfl
 |x::y::r,b+2,_=>
  show cG (x::y::r.take b)=_
  unfold cG
  rw[if_neg (by simp),if_neg (by simp)];rfl
theorem P4{l:List Int}(hb:∀x∈l,zm x)(b:Nat):∀x∈l.take b,zm x:=fun x hx=>hb x (List.mem_of_mem_take hx)
theorem adQ(n:Int)(l:List Int)(hb:∀x∈l,zm x)(h:¬l.length<2)(hz:¬(cG l=0\/n<cG l))(b:Nat)(Kg:b<=l.length):
 (zq n (l.take b)).length=if b<2+(cG l).toNat then 0 else 1+(zq n ((l.drop (2+(cG l).toNat)).take (b-(2+(cG l).toNat)))).length:=by
 have hr:=G6 hb
 have hlen:(l.take b).length=b:=by rw[List.length_take];omega
 by_cases h2:b<2
 ·rw[if_pos (by omega),zb6 n _ (P4 hb b) (by omega)];rfl
 have hs:=NS l b (by omega)
 by_cases h3:b<2+(cG l).toNat
 ·rw[if_pos h3,zvw n _ (P4 hb b) (by omega) (by rw[hs];exact hz) (by rw[hs,hlen];omega)];rfl
 ·rw[if_neg h3,zvv n _ (P4 hb b) (by omega) (by rw[hs];exact hz) (by rw[hs,hlen];omega),List.length_cons,hs,List.drop_take];omega
def cV(n pos:Int)(l:List Int):List Int:=(cT n pos l).2.2.1++if 0<=(cT n pos l).2.2.2 then [(cT n pos l).2.2.2] else []
theorem DK(n:Int):∀(N:Nat) (l:List Int) (pos:Int),l.length<=N->0<=pos->(∀x∈l,zm x)->
 (cV n pos l).length=(zq n l).length/\∀(t:Nat) (ht:t<(cV n pos l).length),∃c:Nat,(cV n pos l)[t]=pos+c/\c<=l.length/\(zq n (l.take c)).length=t+1/\∀b,b<c->(zq n (l.take b)).length<=t:=by
 intro N
 induction N using Nat.strongRecOn with
 |_ N ih=>
 intro l pos hN hp hb
 by_cases h2:l.length<2
 ·have e:cV n pos l=[]:=by unfold cV;rw[cT,dif_pos h2];rfl
  rw[e,zb6 n l hb h2]
  exact⟨rfl,fun t ht=>absurd ht (by simp)⟩
 have hr:=G6 hb
 by_cases hz:cG l=0\/n<cG l
 ·have e:cV n pos l=[pos+2]:=by unfold cV;rw[cT,dif_neg h2,if_pos hz];simp;omega
  have hlen:(l.take 2).length=2:=by rw[List.length_take];omega
  have hs:=NS l 2 (by omega)
  simp only[e]
  refine⟨by rw[Ml n l hb h2 hz];rfl,fun t ht=> ?_⟩
  have KR:t=0:=by simpa using ht
  subst KR
  refine⟨2,rfl,by omega,?_,fun b kc=> ?_⟩
  ·rw[Ml n _ (P4 hb 2) (by omega) (by rw[hs];exact hz)];rfl
  ·rw[zb6 n _ (P4 hb b) (by rw[List.length_take];omega)];exact Nat.zero_le _
 by_cases hl:(l.length:Int)-2<cG l
 ·have e:cV n pos l=[]:=by unfold cV;rw[cT,dif_neg h2,if_neg hz,if_pos hl];rfl
  rw[e,zvw n l hb h2 hz hl]
  exact⟨rfl,fun t ht=>absurd ht (by simp)⟩
 have e:cV n pos l=(pos+2+cG l)::cV n (pos+2+cG l) (l.drop (2+(cG l).toNat)):=by unfold cV;rw[cT,dif_neg h2,if_neg hz,if_neg hl];rfl
 have hdb:∀x∈l.drop (2+(cG l).toNat),zm x:=fun x hx=>hb x (List.mem_of_mem_drop hx)
 have hdl:(l.drop (2+(cG l).toNat)).length=l.length-(2+(cG l).toNat):=List.length_drop
 obtain⟨i1,i2⟩:=ih (N-2) (by omega) (l.drop (2+(cG l).toNat)) (pos+2+cG l) (by omega) (by omega) hdb
 have hit:=adQ n l hb h2 hz
 simp only[e]
 refine⟨by rw[zvv n l hb h2 hz hl,List.length_cons,List.length_cons,i1],fun t ht=> ?_⟩
 cases t with
 |zero=>
  refine⟨2+(cG l).toNat,by rw[List.getElem_cons_zero];omega,by omega,?_,fun b kc=> ?_⟩
  ·rw[hit _ (by omega),if_neg (by omega),Nat.sub_self,List.take_zero,Bm];rfl
  ·rw[hit b (by omega),if_pos kc];exact Nat.le_refl _
 |succ t=>
  obtain⟨c,c1,c2,c3,c4⟩:=i2 t (by rw[List.length_cons] at ht;omega)
  refine⟨2+(cG l).toNat+c,by rw[List.getElem_cons_succ,c1];omega,by omega,?_,fun b kc=> ?_⟩
  ·rw[hit _ (by omega),if_neg (by omega),Nat.add_sub_cancel_left,c3];omega
  ·rw[hit b (by omega)]
   by_cases h3:b<2+(cG l).toNat
   ·rw[if_pos h3];exact Nat.zero_le _
   ·rw[if_neg h3]
    have:=c4 (b-(2+(cG l).toNat)) (by omega)
    omega
def my(l:List Ev):List Int:=(l.map fun e=>bl e.2.1).flatten
theorem zqu(e:Ev)(l:List Ev):my (e::l)=bl e.2.1++my l:=by simp [my]
theorem ado(a b:List Ev):my (a++b)=my a++my b:=by simp [my]
theorem adp(l:List Ev):(my l).length=ja l:=by
 induction l with
 |nil=>rfl
 |cons e l ih=>rw[zqu,Bk,List.length_append,zf,ih]
def nL(k:Int)(xy:ByteArray×ByteArray):ByteArray:=if k=0 then xy.1 else xy.2
theorem DP(n k:Int)(hk:k=0\/k=1):∀(l:List Ev) (xy:ByteArray×ByteArray),(∀e∈l,e.1=k)->
 (bB n xy l).1=(dS n (bl (nL k xy)) (my l)).map (fun i=>(k,i))/\bl (nL k (bB n xy l).2)=bl (nL k xy)++my l/\nL (1-k) (bB n xy l).2=nL (1-k) xy
 | [],xy,_=>by rw[bB];exact⟨by rw[show my []=[] from rfl,akB];rfl,by rw[show my []=[] from rfl,List.append_nil],rfl⟩
 |e::l,xy,he=>by
  obtain⟨h1,h2,h3⟩:=DP n k hk l (dq n xy e).2 (fun x hx=>he x (by simp [hx]))
  have e1:=he e (by simp)
  have hn:(dq n xy e).1=(dS n (bl (nL k xy)) (bl e.2.1)).map (fun i=>(k,i))/\bl (nL k (dq n xy e).2)=bl (nL k xy)++bl e.2.1/\nL (1-k) (dq n xy e).2=nL (1-k) xy:=by
   unfold dq nL
   rcases hk with rfl|rfl
   ·rw[if_pos e1];simp [qI]
   ·rw[if_neg (by omega),if_pos e1];simp [qI]
  rw[bB,h1,h2,h3,hn.1,hn.2.1,hn.2.2,zqu,acX,List.map_append,List.append_assoc]
  exact⟨rfl,rfl,rfl⟩
def dg(k:Int)(a:ByteArray)(l:List Ev):ByteArray:=l.foldl (fun a e=>if e.1=k then a++e.2.1 else a) a
theorem Mn(n:Int):∀(l:List Ev) (x y:ByteArray),(bB n (x,y) l).2=(dg 0 x l,dg 1 y l)
 | [],x,y=>rfl
 |e::l,x,y=>by
  rw[bB]
  dsimp only
  have hn:(dq n (x,y) e).2=(if e.1=0 then x++e.2.1 else x,if e.1=1 then y++e.2.1 else y):=by
   unfold dq
   by_cases h0:e.1=0
   ·rw[if_pos h0,if_pos h0,if_neg (by omega)]
   ·rw[if_neg h0,if_neg h0]
    by_cases h1:e.1=1
    ·rw[if_pos h1,if_pos h1]
    ·rw[if_neg h1,if_neg h1]
  rw[hn,Mn n l]
  rfl
theorem Ql(k:Int):∀(l:List Ev) (a:ByteArray),(dg k a l).size<=a.size+ja l
 | [],a=>by simp [dg]
 |e::l,a=>by
  have:=Ql k l (if e.1=k then a++e.2.1 else a)
  rw[show dg k a (e::l)=dg k (if e.1=k then a++e.2.1 else a) l from rfl,Bk]
  have h2:(if e.1=k then a++e.2.1 else a).size<=a.size+e.2.1.size:=by
   split
   ·rw[ByteArray.size_append];omega
   ·omega
  omega
theorem P8(n:Int)(S:List Int){a b:Nat}(h:a<=b):zq n (S.take b)=zq n (S.take a)++dS n (S.take a) ((S.take b).drop a):=by
 rw[<-x6]
 congr 1
 have:S.take a=(S.take b).take a:=by rw[List.take_take,Nat.min_eq_left h]
 rw[this,List.take_append_drop]
theorem P0(n:Int)(S:List Int){a b:Nat}(h:a<=b):(zq n (S.take a)).length<=(zq n (S.take b)).length:=by
 rw[P8 n S h,List.length_append];omega
theorem zvx(n:Int)(S:List Int){a b:Nat}(h:a<=b)(hl:(zq n (S.take b)).length<=(zq n (S.take a)).length):zq n (S.take b)=zq n (S.take a):=by
 have e:=P8 n S h
 have:dS n (S.take a) ((S.take b).drop a)=[]:=by
  rw[e,List.length_append] at hl
  exact List.eq_nil_of_length_eq_zero (by omega)
 rw[e,this,List.append_nil]
theorem akC(n:Int)(S:List Int){f f' c c':Nat}(h1:zq n (S.take f)=zq n (S.take c))(h2:zq n (S.take f')=zq n (S.take c'))(hf:f<=f')(hc:c<=c'):
 dS n (S.take f) ((S.take f').drop f)=dS n (S.take c) ((S.take c').drop c):=by
 rw[P8 n S hf,P8 n S hc,h1] at h2
 exact List.append_cancel_left h2
theorem NF(n:Int)(S:List Int){f f':Nat}(h1:zq n (S.take f')=zq n (S.take f))(hf:f<=f'):dS n (S.take f) ((S.take f').drop f)=[]:=by
 rw[P8 n S hf] at h1
 have:(zq n (S.take f)++dS n (S.take f) ((S.take f').drop f)).length=(zq n (S.take f)).length:=by rw[h1]
 rw[List.length_append] at this
 exact List.eq_nil_of_length_eq_zero (by omega)
def WJ(k:Int)(i:Int)(x:Ev)(s:ByteArray)(K:ByteArray->Option ByteArray):Option ByteArray:=
 bif(decide (x.1=k)) then(bif decide (s.size+x.2.1.size<=9223372036854775807) then K (s++x.2.1) else none) else K s
theorem ze9(k:Int):∀(l:List Ev) (i:Int) (s:ByteArray),s.size+ja l<=1000000000->bk (WJ k) (fun s=>some s) l i s=some (dg k s l)
 | [],i,s,_=>rfl
 |x::l,i,s,h=>by
  rw[Bk] at h
  rw[bk,WJ,show dg k s (x::l)=dg k (if x.1=k then s++x.2.1 else s) l from rfl]
  by_cases e:x.1=k
  ·rw[zT e,if_pos e,zC,zT (by omega),zC]
   exact ze9 k l (i+1) _ (by rw[ByteArray.size_append];omega)
  ·rw[zF e,if_neg e,zD]
   exact ze9 k l (i+1) _ (by omega)
theorem LA(l:List Ev)(k:Int)(hl:l.length<=1000000000)(hs:ja l<=1000000000):qT l k=some (dg k (bs []) l):=by
 unfold qT UM
 dsimp only
 have:=ly ((0:Int),bs [],()) l (by rw[zi];omega) (WJ k) (fun s=>some s) (fun j i s=>QH j l k s i)
  (fun j i s hi oC=>by
    show FK l k s i _ _=_
    unfold FK WJ
    rw[zT oC,zC,zn hi oC,zn hi oC])
  (fun j s=>by
    show FK l k s _ _ _=_
    unfold FK
    rw[zF (by omega)];rfl) (bs [])
 have hz:(bs []).size=0:=rfl
 rw[this,ze9 k l 0 (bs []) (by omega),zc]
 rfl
theorem alb(n:Int)(s:ByteArray)(hs:s.size<=1000000000):s6 n s=some (cV n 0 (bl s)):=by
 unfold s6 UB cV
 rw[zr7 n s (by omega),zc]
 have hlen:(cT n 0 (bl s)).2.2.1.length<=s.size:=by
  have h1:=(DK n _ (bl s) 0 (Nat.le_refl _) (by omega) (fun x hx=>jI hx)).1
  have h2:=Ft n [] (bl s)
  have h3:=x6 n [] (bl s)
  rw[Bm,List.nil_append,List.nil_append] at h3
  unfold cV at h1
  rw[h3,List.length_append] at h1
  rw[zf] at h2
  by_cases h4:(0:Int)<=(cT n 0 (bl s)).2.2.2
  ·rw[if_pos h4,List.length_singleton] at h1;omega
  ·rw[<-h3] at h1
   have h5:=GY n 0 (bl s) (by omega) (fun x hx=>jI hx)
   rw[if_neg h4] at h1 h5
   have h6:=akS n (bl s) (fun x hx=>jI hx)
   have h7:=(zra n (bl s)).2
   rw[h6] at h7
   rw[zf] at h7
   rw[h5] at h1
   simp at h1 h7
   omega
 dsimp only
 by_cases h4:(0:Int)<=(cT n 0 (bl s)).2.2.2
 ·rw[zT h4,if_pos h4,zC,zT (by simp only[List.length_cons,List.length_nil];omega)];rfl
 ·rw[zF h4,if_neg h4,List.append_nil];rfl
section
variable (p q:aX) (n:Int) (h:cH p q) (hc:(fI p q n).1=0)
include h hc
end
end bm

namespace bm
open Go.IntKind renaming wrap->zW,i64->zI,u8->zU
open Go Go.Ref
def gJ(k:Int)(l:List Ev):List Int:=my (l.filter fun e=>decide (e.1=k))
theorem S4(k:Int)(a b:List Ev):gJ k (a++b)=gJ k a++gJ k b:=by unfold gJ;rw[List.filter_append,ado]
theorem O8(k:Int)(e:Ev):gJ k [e]=if e.1=k then bl e.2.1 else []:=by
 unfold gJ
 by_cases h:e.1=k
 ·rw[if_pos h,List.filter_cons_of_pos (by simpa using h)];simp [my]
 ·rw[if_neg h,List.filter_cons_of_neg (by simpa using h)];simp [my]
theorem Qm(k:Int)(l:List Ev){j:Nat}(h:j<l.length):gJ k (l.take (j+1))=gJ k (l.take j)++if l[j].1=k then bl l[j].2.1 else []:=by
 rw[<-List.take_append_getElem h,S4,O8]
theorem Gf(k:Int):∀(l:List Ev) (a:ByteArray),bl (dg k a l)=bl a++gJ k l
 | [],a=>by rw[show gJ k []=[] from rfl,List.append_nil];rfl
 |e::l,a=>by
  rw[show dg k a (e::l)=dg k (if e.1=k then a++e.2.1 else a) l from rfl,Gf k l,show e::l=[e]++l from rfl,S4,O8]
  by_cases h:e.1=k
  ·rw[if_pos h,if_pos h,qI,List.append_assoc]
  ·rw[if_neg h,if_neg h,List.nil_append]
theorem O9(k:Int)(l:List Ev)(j:Nat):(gJ k l).take (gJ k (l.take j)).length=gJ k (l.take j):=by
 have:gJ k l=gJ k (l.take j)++gJ k (l.drop j):=by rw[<-S4,List.take_append_drop]
 rw[this,List.take_left']
 rfl
theorem PN(k:Int)(l:List Ev)(j:Nat):(gJ k (l.take j)).length<=(gJ k l).length:=by
 have:gJ k l=gJ k (l.take j)++gJ k (l.drop j):=by rw[<-S4,List.take_append_drop]
 rw[this,List.length_append];omega
abbrev nB:ByteArray×ByteArray:=(bs [],bs [])
structure ic(n:Int)(l:List Ev)(k:Int)(S So:List Int)(j:Nat)(out:List Ev)(c co t tt f fo:Nat):Prop where
 its:(bB n nB out).1=(bB n nB (l.take j)).1
 b:bl (nL k (bB n nB out).2)=S.take f
 bo:bl (nL (1-k) (bB n nB out).2)=So.take fo
 i:zq n (S.take f)=zq n (S.take c)
 io:zq n (So.take fo)=zq n (So.take co)
 nn:t=(zq n (S.take f)).length
 K7:tt=(zq n (So.take fo)).length
 g:f<=c
 go:fo<=co
 d:c=(gJ k (l.take j)).length
 dd:co=(gJ (1-k) (l.take j)).length
 e:S=gJ k l
 eo:So=gJ (1-k) l
 len:out.length=t+tt
 SJ:ja out=f+fo
theorem ic.swap{n:Int}{l:List Ev}{k:Int}{S So:List Int}{j:Nat}{out:List Ev}{c co t tt f fo:Nat}(h:ic n l k S So j out c co t tt f fo):ic n l (1-k) So S j out co c tt t fo f:=by
 have e:1-(1-k)=k:=by omega
 exact⟨h.its,h.bo,by rw[e];exact h.b,h.io,h.i,h.K7,h.nn,h.go,h.g,h.dd,by rw[e];exact h.d,h.eo,by rw[e];exact h.e,by rw[h.len];omega,by rw[h.SJ];omega⟩
theorem ziz(n k:Int)(hk:k=0\/k=1)(l:List Ev):bl (nL k (bB n nB l).2)=gJ k l:=by
 rw[Mn]
 unfold nL
 rcases hk with rfl|rfl
 ·rw[if_pos rfl]
  show bl (dg 0 (bs []) l)=_
  rw[Gf];rfl
 ·rw[if_neg (by decide)]
  show bl (dg 1 (bs []) l)=_
  rw[Gf];rfl
theorem akA(n k:Int)(hk:k=0\/k=1)(xy:ByteArray×ByteArray)(e:Ev)(he:e.1=k):(dq n xy e).1=(dS n (bl (nL k xy)) (bl e.2.1)).map fun i=>(k,i):=by
 have:=(DP n k hk [e] xy (fun x hx=>by simp at hx;rw[hx];exact he)).1
 rw[bB,bB] at this
 simpa [my] using this
theorem ic.step{n:Int}{l:List Ev}{k:Int}(hk:k=0\/k=1){S So:List Int}{j:Nat}{out:List Ev}{c co t tt f fo:Nat}(h:ic n l k S So j out c co t tt f fo)(hj:j<l.length)(he:l[j].1=k)
 {new:List Ev} {c' t' f':Nat} (hc:c'=c+l[j].2.1.size) (hn:∀e∈new,e.1=k) (hb:my new=(S.take f').drop f) (h1:f<=f') (h2:f'<=c') (hi:zq n (S.take f')=zq n (S.take c')) (ht:t'=(zq n (S.take f')).length) (hl:new.length=t'-t):
 ic n l k S So (j+1) (out++new) c' co t' tt f' fo:=by
 have hs:=Qm k l hj
 rw[if_pos he] at hs
 have Cl:c'=(gJ k (l.take (j+1))).length:=by rw[hs,List.length_append,<-h.d,zf,hc]
 have hle:=PN k l (j+1)
 rw[<-Cl,<-h.e] at hle
 have hp:=O9 k l (j+1)
 have hp0:=O9 k l j
 rw[<-Cl,<-h.e] at hp
 rw[<-h.d,<-h.e] at hp0
 have Cn:c<=c':=by omega
 have hch:(S.take c').drop c=bl l[j].2.1:=by
  rw[hp,hs,h.d,List.drop_left']
  rfl
 obtain⟨o1,o2,o3⟩:=DP n k hk new (bB n nB out).2 hn
 have htt:t<=t':=by
  rw[h.nn,ht];exact P0 n S h1
 have gk:=Qm (1-k) l hj
 rw[if_neg (by omega),List.append_nil] at gk
 refine⟨?_,?_,?_,hi,h.io,ht,h.K7,h2,h.go,Cl,by rw[gk];exact h.dd,h.e,h.eo,by rw[List.length_append,h.len,hl];omega,?_⟩
 ·rw[Fb]
  dsimp only
  rw[o1,h.b,hb,akC n S h.i hi h1 Cn,<-List.take_append_getElem hj,Fb,h.its]
  dsimp only
  rw[bB,bB,akA n k hk _ _ he,ziz n k hk,hch,hp0,List.append_nil]
 ·rw[Fb]
  dsimp only
  rw[o2,h.b,hb]
  have:S.take f=(S.take f').take f:=by rw[List.take_take,Nat.min_eq_left h1]
  rw[this,List.take_append_drop]
 ·rw[Fb]
  dsimp only
  rw[o3,h.bo]
 ·rw[zef,h.SJ,<-adp new,hb,List.length_drop,List.length_take,Nat.min_eq_left (by omega)]
  omega
theorem ic.none{n:Int}{l:List Ev}{S So:List Int}{j:Nat}{out:List Ev}{c co t tt f fo:Nat}(h:ic n l 0 S So j out c co t tt f fo)(hj:j<l.length)(h0:¬l[j].1=0)(h1:¬l[j].1=1):
 ic n l 0 S So (j+1) out c co t tt f fo:=by
 have hs:=Qm 0 l hj
 have gk:=Qm (1-0) l hj
 rw[if_neg h0,List.append_nil] at hs
 rw[if_neg (by omega),List.append_nil] at gk
 refine⟨?_,h.b,h.bo,h.i,h.io,h.nn,h.K7,h.g,h.go,by rw[hs];exact h.d,by rw[gk];exact h.dd,h.e,h.eo,h.len,h.SJ⟩
 have hn:∀xy,dq n xy l[j]=([],xy):=fun xy=>by unfold dq;rw[if_neg h0,if_neg h1]
 rw[<-List.take_append_getElem hj,Fb,h.its]
 dsimp only
 rw[bB,bB,hn]
 simp
def two{α:Type}(k:Int)(a b:α):List α:=if k=0 then [a,b] else [b,a]
theorem Rr{α:Type}{k:Int}(hk:k=0\/k=1)(a b d:α):List.getD (two k a b) k.toNat d=a:=by rcases hk with rfl|rfl<;>rfl
theorem DZ{α:Type}{k:Int}(hk:k=0\/k=1)(a b c:α):List.set (two k a b) k.toNat c=two k c b:=by rcases hk with rfl|rfl<;>rfl
theorem HO{R:Type}{k:Int}(hk:k=0\/k=1)(x:Option R):zd k 2 x=x:=by rcases hk with rfl|rfl<;>rfl
theorem agE(S:List Int){a b c:Nat}(h1:a<=b)(h2:b<=c):(S.take b).drop a++(S.take c).drop b=(S.take c).drop a:=by
 have e:S.take b=(S.take c).take b:=by rw[List.take_take,Nat.min_eq_left h2]
 rw[e]
 generalize S.take c=X
 conv=>rhs;rw[<-List.take_append_drop b X,List.drop_append]
 congr 1
 rcases Nat.lt_or_ge b X.length with h|h
 ·rw[List.length_take,Nat.min_eq_left (by omega),show a-b=0 by omega,List.drop_zero]
 ·rw[List.drop_eq_nil_of_le h,List.drop_nil]
theorem akL(n most:Int)(l:List Ev)(i:Int){k:Int}(hk:k=0\/k=1)(S So:ByteArray)(cc:Nat)(co tt fo:Int)(hS:S.size<=1000000)(Cl:cc<=S.size):∀(m q:Nat) (out:List Ev) (t f:Nat),
 t+m=(cV n 0 (bl S)).length->m<q->t=(zq n ((bl S).take f)).length->f<=cc->out.length+m<=3000000->
 ∃new t' f',Bz q most l out i k (cV n 0 (bl S)) (two k (cc:Int) co) (two k (t:Int) tt) (two k (f:Int) fo) (two k S So)=some (most,l,out++new,i,two k (cc:Int) co,two k ((t':Nat):Int) tt,two k ((f':Nat):Int) fo,two k S So)/\
  (∀e∈new,e.1=k)/\my new=((bl S).take f').drop f/\f<=f'/\f'<=cc/\zq n ((bl S).take f')=zq n ((bl S).take cc)/\t'=(zq n ((bl S).take f')).length/\new.length=t'-t:=by
 obtain⟨hE1,hE⟩:=DK n _ (bl S) 0 (Nat.le_refl _) (by omega) (fun x hx=>jI hx)
 have hlen:=zf S
 have hEl:(cV n 0 (bl S)).length<=1000001:=by
  have h2:=Ft n [] (bl S)
  have h3:=x6 n [] (bl S)
  rw[Bm,List.nil_append,List.nil_append] at h3
  rw[<-h3,hlen] at h2
  omega
 generalize hEE:cV n 0 (bl S)=E at*
 intro m
 induction m with
 |zero=>
  intro q out t f hm hq ht hf ho
  obtain⟨q,rfl⟩:∃q',q=q'+1:=⟨q-1,by omega⟩
  refine⟨[],t,f,?_,fun e he=>(by cases he),?_,Nat.le_refl _,hf,?_,ht,by simp⟩
  ·rw[Bz,Hl]
   simp only[Rr hk,HO hk]
   rw[zF (by omega),zD,List.append_nil]
  ·rw[List.drop_eq_nil_of_le (by rw[List.length_take];omega)];rfl
  ·have h1:=P0 n (bl S) (a:=cc) (b:=(bl S).length) (by omega)
   rw[List.take_length,<-hE1] at h1
   exact(zvx n (bl S) hf (by omega)).symm
 |succ m ih=>
  intro q out t f hm hq ht hf ho
  obtain⟨q,rfl⟩:∃q',q=q'+1:=⟨q-1,by omega⟩
  have St:t<E.length:=by omega
  obtain⟨c,c1,c2,c3,c4⟩:=hE t St
  rw[Int.zero_add] at c1
  have cu:List.getD E ((t:Int)).toNat (0:Int)=(c:Int):=by rw[Int.toNat_natCast,List.getD_eq_getElem?_getD,List.getElem?_eq_getElem St,<-c1];rfl
  by_cases Cn:c<=cc
  ·have hfc:f<=c:=by
    rcases Nat.lt_or_ge c f with h|h
    ·have:=P0 n (bl S) (Nat.le_of_lt h)
     omega
    ·exact h
   obtain⟨new,t',f',r1,r2,r3,r4,r5,r6,r7,r8⟩:=ih q (out++ [(k,S.extract ((f:Int)).toNat ((c:Int)).toNat,())]) (t+1) c (by omega) (by omega) c3.symm Cn (by simp;omega)
   refine⟨(k,S.extract ((f:Int)).toNat ((c:Int)).toNat,())::new,t',f',?_,?_,?_,by omega,r5,r6,r7,?_⟩
   ·rw[Bz,Hl]
    simp only[Rr hk,HO hk,DZ hk,zh St,cu]
    rw[zT (by omega),zC,zT (by omega),zC,zT (by omega),zC,zT (by omega),zC,zT (by omega),zC,zT (by rw[Int.toNat_natCast];omega),zC,zT (by simp only[List.length_cons,List.length_nil];omega),zC,zr (by omega)]
    rw[r1,List.append_assoc]
    rfl
   ·intro e he
    rcases List.mem_cons.1 he with he|he
    ·rw[he]
    ·exact r2 e he
   ·rw[zqu,r3,qG,Int.toNat_natCast,Int.toNat_natCast,agE _ hfc r4]
   ·rw[List.length_cons,r8]
    have:=P0 n (bl S) r4
    omega
  ·refine⟨[],t,f,?_,fun e he=>(by cases he),?_,Nat.le_refl _,hf,?_,ht,by simp⟩
   ·rw[Bz,Hl]
    simp only[Rr hk,HO hk,DZ hk,zh St,cu]
    rw[zT (by omega),zC,zF (by omega),zD,List.append_nil]
   ·rw[List.drop_eq_nil_of_le (by rw[List.length_take];omega)];rfl
   ·have:=c4 cc (by omega)
    exact(zvx n (bl S) hf (by omega)).symm
theorem zw5(n:Int)(l:List Ev)(hl:l.length<=1000000)(hz:ja l<=1000000){k:Int}(hk:k=0\/k=1)(S So:ByteArray){j:Nat}(hj:j<l.length)(he:l[j].1=k){out:List Ev}{c co t tt f fo:Nat}
 (h:ic n l k (bl S) (bl So) j out c co t tt f fo) (q:Nat):∃new c' t' f',vf (q+1) n l out (j:Int) (two k (c:Int) (co:Int)) (two k (t:Int) (tt:Int)) (two k (f:Int) (fo:Int)) (two k S So)=
   vf q n l (out++new) ((j+1:Nat):Int) (two k ((c':Nat):Int) (co:Int)) (two k ((t':Nat):Int) (tt:Int)) (two k ((f':Nat):Int) (fo:Int)) (two k S So)/\ic n l k (bl S) (bl So) (j+1) (out++new) c' co t' tt f' fo:=by
 have hlS:=zf S
 have hSz:(bl S).length<=ja l:=by
  rw[h.e]
  have:=Ql k l (bs [])
  have e:=Gf k l (bs [])
  rw[show bl (bs [])=[] from rfl,List.nil_append] at e
  rw[<-e,zf]
  have hz:(bs []).size=0:=rfl
  omega
 have hd:=Qm k l hj
 rw[if_pos he] at hd
 have hle:=PN k l (j+1)
 rw[hd,List.length_append,<-h.d,zf,<-h.e] at hle
 obtain⟨hE1,_⟩:=DK n _ (bl S) 0 (Nat.le_refl _) (by omega) (fun x hx=>jI hx)
 have qw:=P0 n (bl S) (a:=f) (b:=(bl S).length) (by have:=h.g;omega)
 rw[List.take_length,<-h.nn] at qw
 have hEl:(cV n 0 (bl S)).length<=1000001:=by
  have h2:=Ft n [] (bl S)
  have h3:=x6 n [] (bl S)
  rw[Bm,List.nil_append,List.nil_append] at h3
  rw[<-h3] at h2
  omega
 have AH:=zf So
 have hSo:(bl So).length<=ja l:=by
  rw[h.eo]
  have:=Ql (1-k) l (bs [])
  have e:=Gf (1-k) l (bs [])
  rw[show bl (bs [])=[] from rfl,List.nil_append] at e
  rw[<-e,zf]
  have hz:(bs []).size=0:=rfl
  omega
 have htt:tt<=1000001:=by
  rw[h.K7]
  have h2:=Ft n [] ((bl So).take fo)
  have h3:=x6 n [] ((bl So).take fo)
  rw[Bm,List.nil_append,List.nil_append] at h3
  rw[<-h3,List.length_take] at h2
  omega
 obtain⟨new,t',f',r1,r2,r3,r4,r5,r6,r7,r8⟩:=akL n n l (j:Int) hk S So (c+l[j].2.1.size) (co:Int) (tt:Int) (fo:Int) (by omega) (by omega) ((cV n 0 (bl S)).length-t) ag out t f (by omega) (by rw[zu];omega) h.nn (by have:=h.g;omega) (by rw[h.len];omega)
 refine⟨new,c+l[j].2.1.size,t',f',?_,h.step hk hj he rfl r2 r3 r4 r5 r6 r7 r8⟩
 rw[vf,Hk,zT (by omega),zC,zh hj,OJ hj,he,zF (by omega),zD,zF (by omega),zD,HO hk,zh hj,HO hk,HO hk,Rr hk,alb n S (by omega),zc,
  Rr hk,DZ hk,zj (by omega) (by omega),show(c:Int)+(l[j].2.1.size:Int)=((c+l[j].2.1.size:Nat):Int) by omega]
 refine(congrArg (fun o=>Option.bind o _) r1).trans ?_
 rw[zc]
 unfold UG
 dsimp only
 rw[zr (by omega)]
theorem ahb(n:Int)(l:List Ev)(hl:l.length<=1000000)(hz:ja l<=1000000)(S0 S1:ByteArray):∀(m j q:Nat) (out:List Ev) (c0 c1 t0 t1 f0 f1:Nat),j+m=l.length->m<q->ic n l 0 (bl S0) (bl S1) j out c0 c1 t0 t1 f0 f1->
 ∃ns c0' J6 t0' t1' f0' f1',vf q n l out (j:Int) [(c0:Int),(c1:Int)] [(t0:Int),(t1:Int)] [(f0:Int),(f1:Int)] [S0,S1]=some (ns,[((f0':Nat):Int),((f1':Nat):Int)],[S0,S1])/\ic n l 0 (bl S0) (bl S1) l.length ns c0' J6 t0' t1' f0' f1':=by
 intro m
 induction m with
 |zero=>
  intro j q out c0 c1 t0 t1 f0 f1 hj hq h
  obtain⟨q,rfl⟩:∃q',q=q'+1:=⟨q-1,by omega⟩
  have Cy:j=l.length:=by omega
  subst Cy
  exact⟨out,c0,c1,t0,t1,f0,f1,by rw[vf,Hk,zF (by omega)];rfl,h⟩
 |succ m ih=>
  intro j q out c0 c1 t0 t1 f0 f1 hj hq h
  obtain⟨q,rfl⟩:∃q',q=q'+1:=⟨q-1,by omega⟩
  have aq:j<l.length:=by omega
  by_cases h0:l[j].1=0
  ·obtain⟨new,c',t',f',r1,r2⟩:=zw5 n l hl hz (.inl rfl) S0 S1 aq h0 h q
   obtain⟨ns,a1,a2,a3,a4,a5,a6,a7,a8⟩:=ih (j+1) q _ _ _ _ _ _ _ (by omega) (by omega) r2
   exact⟨ns,a1,a2,a3,a4,a5,a6,r1.trans a7,a8⟩
  by_cases h1:l[j].1=1
  ·obtain⟨new,c',t',f',r1,r2⟩:=zw5 n l hl hz (k:=1-0) (.inr rfl) S1 S0 aq (show l[j].1=1-0 from h1) h.swap q
   obtain⟨ns,a1,a2,a3,a4,a5,a6,a7,a8⟩:=ih (j+1) q _ _ _ _ _ _ _ (by omega) (by omega) r2.swap
   exact⟨ns,a1,a2,a3,a4,a5,a6,r1.trans a7,a8⟩
  ·obtain⟨ns,a1,a2,a3,a4,a5,a6,a7,a8⟩:=ih (j+1) q _ _ _ _ _ _ _ (by omega) (by omega) (h.none aq h0 h1)
   refine⟨ns,a1,a2,a3,a4,a5,a6,?_,a8⟩
   rw[vf,Hk,zT (by omega),zC,zh aq,OJ aq]
   by_cases h2:l[j].1<0
   ·rw[zT h2,zC,zr (by omega)];exact a7
   ·rw[zF h2,zD,zT (by omega),zC,zr (by omega)];exact a7
theorem ahZ(n:Int)(l:List Ev)(hl:l.length<=1000000)(hz:ja l<=1000000):∃out,s7 n l=some out/\(bB n nB out).1=(bB n nB l).1/\bl (bB n nB out).2.1=gJ 0 l/\bl (bB n nB out).2.2=gJ 1 l/\out.length<=3000000/\ja out<=3000000:=by
 have KY:(bs []).size=0:=rfl
 have s0:=Ql 0 l (bs [])
 have s1:=Ql 1 l (bs [])
 have e0:bl (dg 0 (bs []) l)=gJ 0 l:=by rw[Gf];rfl
 have e1:bl (dg 1 (bs []) l)=gJ 1 l:=by rw[Gf];rfl
 have ZN:ic n l 0 (bl (dg 0 (bs []) l)) (bl (dg 1 (bs []) l)) 0 [] 0 0 0 0 0 0:=by
  refine⟨rfl,rfl,rfl,rfl,rfl,?_,?_,Nat.le_refl _,Nat.le_refl _,rfl,rfl,e0,e1,rfl,rfl⟩
  ·rw[List.take_zero,Bm];rfl
  ·rw[List.take_zero,Bm];rfl
 obtain⟨out,c0,c1,t0,t1,f0,f1,r1,h⟩:=ahb n l hl hz (dg 0 (bs []) l) (dg 1 (bs []) l) l.length 0 ag [] 0 0 0 0 0 0 (by omega) (by rw[zu];omega) ZN
 have hd:=h.d
 have AA:=h.dd
 have hg:=h.g
 have ox:=h.go
 rw[List.take_length] at hd AA
 have CA:=zf (dg 0 (bs []) l)
 have vw:=zf (dg 1 (bs []) l)
 rw[e0] at CA
 rw[e1] at vw
 rw[show(1:Int)-0=1 from rfl] at AA
 have Z2:=h.len
 have dm:=h.SJ
 have hm:∀(a:List Int) (f:Nat),a.length<=1000000->(zq n (a.take f)).length<=1000001:=fun a f ha=>by
  have h2:=Ft n [] (a.take f)
  have h3:=x6 n [] (a.take f)
  rw[Bm,List.nil_append,List.nil_append] at h3
  rw[<-h3,List.length_take] at h2
  omega
 have KR:=hm (bl (dg 0 (bs []) l)) f0 (by rw[e0];omega)
 have ht1:=hm (bl (dg 1 (bs []) l)) f1 (by rw[e1];omega)
 rw[<-h.nn] at KR
 rw[<-h.K7] at ht1
 have x0:bl ((dg 0 (bs []) l).extract f0 (dg 0 (bs []) l).size)=(bl (dg 0 (bs []) l)).drop f0:=by
  rw[qG,List.take_of_length_le (by rw[zf];omega)]
 have x1:bl ((dg 1 (bs []) l).extract f1 (dg 1 (bs []) l).size)=(bl (dg 1 (bs []) l)).drop f1:=by
  rw[qG,List.take_of_length_le (by rw[zf];omega)]
 have n0:dS n ((bl (dg 0 (bs []) l)).take f0) ((bl (dg 0 (bs []) l)).drop f0)=[]:=by
  have:=NF n (bl (dg 0 (bs []) l)) (f:=f0) (f':=c0) h.i.symm hg
  rw[show(bl (dg 0 (bs []) l)).take c0=bl (dg 0 (bs []) l) from List.take_of_length_le (by rw[e0];omega)] at this
  exact this
 have n1:dS n ((bl (dg 1 (bs []) l)).take f1) ((bl (dg 1 (bs []) l)).drop f1)=[]:=by
  have:=NF n (bl (dg 1 (bs []) l)) (f:=f1) (f':=c1) h.io.symm ox
  rw[show(bl (dg 1 (bs []) l)).take c1=bl (dg 1 (bs []) l) from List.take_of_length_le (by rw[e1];omega)] at this
  exact this
 have b0:bl (bB n nB out).2.1=(bl (dg 0 (bs []) l)).take f0:=h.b
 have b1:bl (bB n nB out).2.2=(bl (dg 1 (bs []) l)).take f1:=h.bo
 refine⟨out++ [((0:Int),(dg 0 (bs []) l).extract f0 (dg 0 (bs []) l).size,()),((1:Int),(dg 1 (bs []) l).extract f1 (dg 1 (bs []) l).size,())],?_,?_⟩
 ·unfold s7 UE
  rw[LA l 0 (by omega) (by omega),zc,LA l 1 (by omega) (by omega),zc]
  dsimp only
  refine(congrArg (fun o=>Option.bind o _) r1).trans ?_
  rw[zc]
  unfold UF
  simp only[rQ,rR,vC,vD,show List.getD [((f0:Nat):Int),((f1:Nat):Int)] (0:Int).toNat 0=(f0:Int) from rfl,show List.getD [((f0:Nat):Int),((f1:Nat):Int)] (1:Int).toNat 0=(f1:Int) from rfl,show List.getD [dg 0 (bs []) l,dg 1 (bs []) l] (0:Int).toNat (bs [])=dg 0 (bs []) l from rfl,show List.getD [dg 0 (bs []) l,dg 1 (bs []) l] (1:Int).toNat (bs [])=dg 1 (bs []) l from rfl]
  rw[zT (by omega),zC,zT (by omega),zC,zT (by omega),zC,zT (by omega),zC,zT (by simp only[List.length_cons,List.length_nil];omega),zC,Int.toNat_natCast,Int.toNat_natCast]
 ·have uf:bB n (bB n nB out).2 [((0:Int),(dg 0 (bs []) l).extract f0 (dg 0 (bs []) l).size,()),((1:Int),(dg 1 (bs []) l).extract f1 (dg 1 (bs []) l).size,())]=([],((bB n nB out).2.1++(dg 0 (bs []) l).extract f0 (dg 0 (bs []) l).size,(bB n nB out).2.2++(dg 1 (bs []) l).extract f1 (dg 1 (bs []) l).size)):=by
   rw[bB,bB,bB]
   unfold dq
   dsimp only
   rw[if_pos rfl,if_neg (by decide),if_pos rfl]
   dsimp only
   rw[b0,b1,x0,x1,n0,n1]
   rfl
  rw[Fb,uf]
  refine⟨?_,?_,?_,by rw[List.length_append,Z2];simp only[List.length_cons,List.length_nil];omega,?_⟩
  ·dsimp only
   rw[List.append_nil,h.its,List.take_length]
  ·dsimp only
   rw[qI,b0,x0,List.take_append_drop,e0]
  ·dsimp only
   rw[qI,b1,x1,List.take_append_drop,e1]
  ·rw[zef,Bk,Bk,show ja []=0 from rfl,<-zf (ByteArray.extract _ _ _),<-zf (ByteArray.extract _ _ _),x0,x1,List.length_drop,List.length_drop,e0,e1]
   omega
theorem iD(c:FY)(l:List Ev)(hc:Wf WK c)(hl:Wf (.sl 0 tEv) l):ID c l=some true:=by
 obtain⟨p,q,n,g,b,rfl,hg,fm,hb,hs,hm⟩:=amJ hc hl 2500 (by omega) (by omega)
 unfold ID Yj
 rw[hm,zc,OU p q n hg fm acQ]
 cases g with
 |true=>simp only[Bool.true_or,zC,Sum.elim_inl,DJ,zc,Bool.not_true,zD]
 |false=>
 have h:=fm rfl
 by_cases h0:(fI p q n).1=0
 case neg=>simp only[zF h0,Bool.or_false,Bool.not_false,Bool.or_true,zC,Sum.elim_inl,DJ,zc,Bool.not_true,zD]
 simp only[zT h0,Bool.or_false,Bool.not_true,Bool.false_or,zD,DJ,zc,Sum.elim_inr]
 cases b with
 |true=>simp only[zC,Sum.elim_inl]
 |false=>
 have hs:=hs rfl
 simp only[zD,Sum.elim_inr]
 have hz:(bs []).size=0:=rfl
 obtain⟨out,r1,r2,r3,r4,r5,r6⟩:=ahZ n l (by omega) (by omega)
 have hi:=Mm n l (bs []) (bs [])
 rw[Bool.not_true,zD,r1,zc,M4 p q n h (bs []) (bs []) 0 l (by omega) (by omega),zc,M4 p q n h (bs []) (bs []) 0 out (by omega) (by omega),zc,r2,
  afY _ _ (by dsimp only;rw[PR,zi];omega),zc,zT rfl,zC]
 have q0:bl (bB n nB l).2.1=gJ 0 l:=ziz n 0 (.inl rfl) l
 have q1:bl (bB n nB l).2.2=gJ 1 l:=ziz n 1 (.inr rfl) l
 rw[S8,zc,S8,zc,if_pos rfl,if_pos rfl]
 dsimp only
 rw[q0,r3,zT rfl,zC,S8,zc,S8,zc,if_neg (by decide),if_pos rfl,if_neg (by decide),if_pos rfl]
 dsimp only
 rw[q1,r4,zT rfl]
end bm

namespace Go.Proofs.YtpjkbbihjoflnaaGreatDoor
noncomputable section
open Go Go.Ref bm
abbrev y0:Go.Ref.Ty:=(.pair .bool (.pair (.sl 5 (.int .u8)) .unit))
abbrev y1:Go.Ref.Ty:=(.pair (.sl 109 (.pair .str (.pair .str .unit))) .unit)
abbrev y2:Go.Ref.Ty:=(.pair (.int .i64) (.pair .str (.pair (.int .i64) .unit)))
abbrev y3:Go.Ref.Ty:=(.pair (.sl 107 (.pair (.int .i64) (.pair .str .unit))) .unit)
abbrev y4:Go.Ref.Ty:=(.pair (.sl 208 (.pair (.int .i64) (.pair .str .unit))) .unit)
abbrev y5:Go.Ref.Ty:=(.pair (.int .i64) (.pair (.int .i64) (.pair (.int .i64) .unit)))
abbrev y6:Go.Ref.Ty:=(.pair (.int .i64) y0)
abbrev y7:Go.Ref.Ty:=(.pair .str y1)
abbrev y8:Go.Ref.Ty:=(.pair .str y4)
abbrev y9:Go.Ref.Ty:=(.pair (.int .i64) y2)
abbrev y10:Go.Ref.Ty:=(.pair (.int .i64) y5)
abbrev y11:Go.Ref.Ty:=(.pair (.int .i64) y7)
abbrev y12:Go.Ref.Ty:=(.pair (.sl 3 (.int .i64)) y3)
abbrev cL:Go.Ref.Ty:=(.pair (.int .i64) y10)
abbrev y14:Go.Ref.Ty:=(.pair (.int .i64) y11)
abbrev cB:Go.Ref.Ty:=(.pair (.int .i64) y14)
abbrev y16:Go.Ref.Ty:=(.pair (.sl 127 cL) .unit)
abbrev y17:Go.Ref.Ty:=(.pair (.int .i64) y16)
abbrev y18:Go.Ref.Ty:=(.pair (.sl 102 cB) .unit)
abbrev aK:Go.Ref.Ty:=(.pair (.int .i64) y17)
abbrev cD:Go.Ref.Ty:=(.pair (.sl 109 (.pair .str (.pair .str .unit))) y18)
abbrev y21:Go.Ref.Ty:=(.pair cD y12)
abbrev cz:Go.Ref.Ty:=(.pair aK y21)
abbrev bU:Go.Ref.Ty:=(.pair (.arr 2 cz) (.pair (.int .i64) .unit))
def GQ:List (Option Ty):=[none,none,some (.int .i64),some (.int .i64),some .bool,some (.int .u8),some (.int .u8),some (.pair (.int .i64) (.pair (.int .i64) (.pair .bool (.pair (.int .u8) .unit)))),some (.pair (.int .i64) (.pair (.int .i64) (.pair .bool (.pair (.int .u8) .unit)))),some .str,some .str,some .str,some (.int .u64),none,none,none,none,none,none,none,none,some (.int .i32),some (.sl 127 cL),some aK,some aK,some (.sl 109 (.pair .str (.pair .str .unit))),some (.sl 102 cB),some cD,some cD,some (.sl 3 (.int .i64)),some (.sl 107 (.pair (.int .i64) (.pair .str .unit))),some cz,some cz,some (.arr 2 cz),some bU,some bU,none,none,none,some (.int .i64),none,none,none,none,none,none,some (.sl 57 (.pair (.int .i64) (.pair .str .unit))),none,none,none,none,some (.arr 2 .str),some (.arr 2 (.int .i64)),some (.arr 2 .bool),some (.pair (.arr 2 .str) (.pair (.arr 2 (.int .i64)) (.pair (.arr 2 .bool) (.pair (.int .i64) .unit)))),some (.pair (.arr 2 .str) (.pair (.arr 2 (.int .i64)) (.pair (.arr 2 .bool) (.pair (.int .i64) .unit)))),some (.pair (.int .i64) (.pair .str .unit)),some (.pair (.int .i64) (.pair .str .unit)),none,some (.sl 71 y9),none,none,none,none,none,none,some (.sl 9 .str),none,none,none,some y9,some y9,none,none,none,none,none,none,none,none,none,none,none,none,none,none,none,none,none,none,none,none,none,none,none,none,none,none,none,some (.sl 5 (.int .u8)),none,some cB,some cB,none,none,none,some (.pair (.int .i64) (.pair .str .unit)),some (.pair (.int .i64) (.pair .str .unit)),some (.pair .str (.pair .str .unit)),some (.pair .str (.pair .str .unit)),none,none,none,some y6,some y6,none,none,none,none,none,none,none,none,none,some (.sl 29 (.sl 3 (.int .i64))),none,some cL,some cL,none,none,none,none,none,none,some (.sl 24 aK),none,none,some (.int .u64),some (.pair (.int .u64) (.pair (.int .u64) .unit)),some (.pair (.int .u64) (.pair (.int .u64) .unit)),none,none,none,none,none,none,none,none,none,none,none,none,none,none,some (.int .u64),some (.sl 208 (.pair (.int .i64) (.pair .str .unit))),some y8,some y8,some (.pair (.int .i64) (.pair (.int .i64) .unit)),some (.pair (.int .i64) (.pair (.int .i64) .unit)),none,none,none,none,none,none,none,none,none,none,none,none,none,none,none,none,none,none,none,none,none,none,none,none,none,none,some (.sl 245 (.pair (.int .i64) (.pair .str .unit))),none,none,none,none,none,none,none,none,none,none,none,none,none,none,none,none,none,none,none,none,some (.pair (.int .i64) (.pair .str .unit)),some (.pair (.int .i64) (.pair .str .unit)),none,none,none,none,none,none,none,none,none,none,none,none,none,none,none,none,none,none,none,none,none,none,none,none,none,none,none,none,none,none,none,none,none,none,none,some (.pair (.int .i64) (.pair .str .unit)),some (.pair (.int .i64) (.pair .str .unit)),none,none,none,some (.sl 39 (.int .i64)),none,none,some (.arr 8 (.int .u8)),none,none,none,none,none,none,none,none,none,none,none,none,none,none,none,none,none,none,none,none,none,none,none,none,none,none,none,none,none,none,none,none,none,none,none,none,none,none,some (.arr 256 .bool),some (.arr 256 .bool),none,none,none,none,some (.int .u32),none,none,none,none,none,none,none,none,some (.arr 256 (.int .u8)),some (.pair (.int .u8) (.pair (.int .u8) .unit)),some (.pair (.int .u8) (.pair (.int .u8) .unit)),some (.arr 16 (.pair (.int .u8) (.pair (.int .u8) .unit))),none,none,none,none,none,none,none,none,some (.int .u8),some (.int .u8),none,some (.int .i32),some (.int .i32),none,none]
def Zh:List Nat:=[0,8,8,8,1,1,1,24,24,16,16,16,8,24,24,8,8,8,8,8,16,4,24,40,40,24,24,48,48,24,24,136,136,272,280,280,8,8,8,8,0,8,8,8,8,8,24,0,8,8,8,32,16,2,64,64,24,24,8,24,8,8,8,8,8,8,24,8,8,8,40,40,8,8,8,8,0,8,8,8,8,8,0,8,8,16,304,304,8,0,8,8,0,8,0,8,8,8,8,24,8,64,64,8,8,8,24,24,32,32,8,8,8,40,40,8,8,8,8,0,8,0,8,8,24,8,40,40,0,8,0,8,8,8,24,8,8,8,16,16,8,8,8,8,8,8,8,8,8,8,0,8,8,8,8,24,40,40,16,16,0,8,0,8,8,0,8,8,8,8,8,8,8,8,0,8,0,8,8,8,8,8,0,8,8,8,24,0,8,8,8,8,8,8,8,8,8,32,32,16,16,0,8,8,8,8,8,24,24,8,8,0,8,0,8,8,8,0,8,0,8,0,8,0,8,8,8,8,0,8,8,8,8,0,8,8,8,0,8,8,8,8,8,8,24,24,8,8,8,24,0,8,8,8,8,8,8,0,8,0,8,8,8,8,0,8,0,8,8,0,8,8,8,8,8,8,8,8,8,8,8,8,8,8,8,8,0,8,8,8,8,256,256,0,8,8,8,4,0,8,8,0,8,8,8,8,256,2,2,32,8,8,8,40,40,0,0,0,1,1,8,4,4,48,48]
def A8:List Bool:=[false,false,false,false,false,false,false,false,false,false,false,false,false,false,false,true,true,true,false,false,false,false,false,false,false,false,false,false,false,false,false,false,false,false,false,false,false,false,true,false,false,false,false,false,false,false,false,false,false,false,true,false,false,false,false,false,false,false,false,false,false,false,false,false,false,false,false,false,false,false,false,false,false,false,false,false,false,false,false,false,false,false,false,false,true,false,false,false,false,false,false,false,false,false,false,false,false,false,false,false,false,false,false,false,false,false,false,false,false,false,false,false,false,false,false,false,false,false,false,false,false,false,false,false,false,false,false,false,false,false,false,false,false,false,false,false,false,false,false,false,false,false,false,false,false,false,false,false,false,false,false,false,false,false,false,false,false,false,false,false,false,false,false,false,false,false,false,false,false,false,false,false,false,false,false,false,false,false,false,false,false,false,false,false,false,false,false,false,false,false,false,false,false,false,false,false,true,false,false,false,false,false,false,false,false,false,false,false,false,false,false,false,false,false,false,false,false,false,false,false,false,false,false,false,false,false,false,false,false,false,false,false,false,false,false,false,false,false,false,false,false,false,false,false,false,false,false,false,false,false,false,false,false,false,false,false,true,false,false,false,false,false,false,false,false,false,false,false,false,false,false,false,false,false,false,false,false,false,false,false,false,false,false,false,false,false,false,false,false,false,false,false,false,false,false,false,true,false,false,false,false,false,false,false,false,false,false,false,false,false,false,false,false,false,false,false,false,false,false,false,false,false,false,false,false]
def SA:List (TypeId×TypeId×TypeId):=[(135,9,4),(277,3,4)]
def b9:rf:=⟨GQ,Zh,A8,SA⟩
theorem E5:b9.ok Tryz.prog=true:=by kernel_rfl
theorem ek:∀a b c d,al Tryz.prog (b9.env a b c d):=rf.oq E5
abbrev e0(ps:List Ty):Env:=b9.env (fun _=>[]) (fun _=>[]) [] ps
abbrev uS(n:Nat)(l:List (List SV)):List (List SV):=Nat.rec (motive:=fun _=>List (List SV)) l (fun _ r=>[.undef]::r) n
abbrev nS(n:Nat)(l:List (Option bC)):List (Option bC):=Nat.rec (motive:=fun _=>List (Option bC)) l (fun _ r=>none::r) n
def R9:ah:=ah.none
theorem o0:aP Tryz.prog R9:= .none (by kernel_rfl)
variable (R:Type) (kk k:Nat) (K:KF R) (J:KX R)
def WW:Env:=b9.env (fun i=>bif Nat.beq i 4 then [1,3] else []) (fun i=>bif Nat.beq i 4 then [2] else []) [] [cz]
def Uk(a:Int)(b:ar):Option R:=aB (ev WW (R9 R) kk (sub [1,1,0,1,0,0] (cd Tryz.f34))) [1,3] [2] k ⟨uS 1 ([.ptr 2 cz []]::uS 1 ([tI a]::uS 32 [])),nS 2 ((some ⟨cz,b,[]⟩)::nS 34 [])⟩ J
def zf4(a:Bool):State:=⟨uS 2 ([tB a]::uS 33 []),nS 37 []⟩
def zf5:State:=⟨uS 36 [],nS 37 []⟩
def zxs:KX R:=(zk 0 (aU WW (R9 R) kk (sub [1,1,1] (cd Tryz.f34)) (aT WW Tryz.f34.results.toList none K)))
theorem aly(a:Int)(b:ar):Uk R kk (k+1) J a b=
 zxt a b (fun a0=>J .ret (zf4 a0)) (Uk R kk k J) (J (.exit 0) (zf5)):=by kernel_rfl
theorem aeO(a:Bool):zxs R kk K .ret (zf4 a)=
 zxu a (fun a0=>K [tB a0] none):=by kernel_rfl
theorem aeP:zxs R kk K (.exit 0) (zf5)=
 zxv (fun a0=>K [tB a0] none):=by kernel_rfl
theorem aio{kk:Nat}(hF:kk=ag)(t3:Int)(c9:ar):Uk R kk k J t3 c9=(QB k t3 c9).bind fun e=>(Sum.elim (fun(we:Bool)=>J .ret (zf4 we)) (fun(we:Unit)=>J (.exit 0) (zf5)) e):=by
 induction k generalizing t3 c9 with
 |zero=>rfl
 |succ k ih=>
  rw[aly]
  simp only[QB,zxt,ih,aD]
def Sa:ah:=R9.add 34 [cz] (cO cz mH (fun _ r K=>K [tB r] none))
theorem o1:aP Tryz.prog Sa:=cP WW Tryz.f34 (fun R kk x0 K=>Ul x0 (fun a0=>K [tB a0] none) (Uk R kk kk (zxs R kk K))) o0 (ek _ _ _ _) Tryz.func34 (by kernel_rfl) rfl (fun _ _ _ _ _ _ h=>h _ _) (fun _ _ _ _=>by kernel_rfl) fun R kk e x0 K=>by
 simp only[mH,Ul,zxu,zxv,aio (hF:=e),aeO,aeP,aD,<-e]
def WS:Env:=b9.env (fun i=>bif Nat.beq i 4 then [1,3] else []) (fun i=>bif Nat.beq i 4 then [2] else []) [] [cB]
def TW(a:Int)(b:aF):Option R:=aB (ev WS (Sa R) kk (sub [1,1,0,1,0,0] (cd Tryz.f54))) [1,3] [2] k ⟨uS 1 ([.ptr 2 cB []]::uS 1 ([tI a]::uS 35 [])),nS 2 ((some ⟨cB,b,[]⟩)::nS 37 [])⟩ J
def zeo(a:Bool):State:=⟨uS 2 ([tB a]::uS 36 []),nS 40 []⟩
def zep:State:=⟨uS 39 [],nS 40 []⟩
def zx6:KX R:=(zk 0 (aU WS (Sa R) kk (sub [1,1,1] (cd Tryz.f54)) (aT WS Tryz.f54.results.toList none K)))
theorem alo(a:Int)(b:aF):TW R kk (k+1) J a b=
 Qs a b (fun a0=>J .ret (zeo a0)) (TW R kk k J) (J (.exit 0) (zep)):=by kernel_rfl
theorem aex(a:Bool):zx6 R kk K .ret (zeo a)=
 zx7 a (fun a0=>K [tB a0] none):=by kernel_rfl
theorem aey:zx6 R kk K (.exit 0) (zep)=
 zx8 (fun a0=>K [tB a0] none):=by kernel_rfl
theorem aie{kk:Nat}(hF:kk=ag)(t3:Int)(c9:aF):TW R kk k J t3 c9=(yc k t3 c9).bind fun e=>(Sum.elim (fun(we:Bool)=>J .ret (zeo we)) (fun(we:Unit)=>J (.exit 0) (zep)) e):=by
 induction k generalizing t3 c9 with
 |zero=>rfl
 |succ k ih=>
  rw[alo]
  simp only[yc,Qs,ih,aD]
def Gq:ah:=Sa.add 54 [cB] (cO cB nX (fun _ r K=>K [tB r] none))
theorem o2:aP Tryz.prog Gq:=cP WS Tryz.f54 (fun R kk x0 K=>TX x0 (fun a0=>K [tB a0] none) (TW R kk kk (zx6 R kk K))) o1 (ek _ _ _ _) Tryz.func54 (by kernel_rfl) rfl (fun _ _ _ _ _ _ h=>h _ _) (fun _ _ _ _=>by kernel_rfl) fun R kk e x0 K=>by
 simp only[nX,TX,zx7,zx8,aie (hF:=e),aex,aey,aD,<-e]
def FZ:Env:=b9.env (fun i=>bif Nat.beq i 4 then [1,3] else bif Nat.beq i 9 then [1,4] else []) (fun i=>bif Nat.beq i 4 then [1,2] else bif Nat.beq i 9 then [2] else []) [] [cD]
def T8(a:Int)(b:ax):Option R:=aB (ev FZ (Gq R) kk (sub [1,1,0,1,0,0] (cd Tryz.f35))) [1,3] [1,2] k ⟨uS 1 ([.ptr 2 cD []]::uS 1 ([tI a]::uS 49 [])),nS 2 ((some ⟨cD,b,[]⟩)::nS 51 [])⟩ J
def zew(a:Bool)(b:ax):State:=⟨uS 1 ([.ptr 2 cD []]::[tB a]::uS 50 []),nS 2 ((some ⟨cD,b,[]⟩)::nS 51 [])⟩
def zex(a:ax):State:=⟨uS 1 ([.ptr 2 cD []]::uS 51 []),nS 2 ((some ⟨cD,a,[]⟩)::nS 51 [])⟩
def zxi:KX R:=(zk 0 (aU FZ (Gq R) kk (sub [1,1,1] (cd Tryz.f35)) (aT FZ Tryz.f35.results.toList none K)))
def T9(a:Int)(b:ax):Option R:=aB (ev FZ (Gq R) kk (sub [1,1,1,0,1,0,0] (cd Tryz.f35))) [1,4] [2] k ⟨uS 1 ([.ptr 2 cD []]::uS 2 ([tI a]::uS 48 [])),nS 2 ((some ⟨cD,b,[]⟩)::nS 51 [])⟩ J
def zey(a:Bool):State:=⟨uS 2 ([tB a]::uS 50 []),nS 54 []⟩
def zez:State:=⟨uS 53 [],nS 54 []⟩
def zxj:KX R:=(zk 2 (aU FZ (Gq R) kk (sub [1,1,1,1] (cd Tryz.f35)) (aT FZ Tryz.f35.results.toList none K)))
theorem alu(a:Int)(b:ax):T8 R kk (k+1) J a b=
 Qy a b (fun a0 a1=>J .ret (zew a0 a1)) (T8 R kk k J) (fun a0=>J (.exit 0) (zex a0)):=by kernel_rfl
theorem aeG(a:Bool)(b:ax):zxi R kk K .ret (zew a b)=
 zxk a b (fun a0=>K [tB a0] none):=by kernel_rfl
theorem aeH(a:ax):zxi R kk K (.exit 0) (zex a)=
 Ub a (T9 R kk kk (zxj R kk K)):=by kernel_rfl
theorem alv(a:Int)(b:ax):T9 R kk (k+1) J a b=
 zxl a b (fun a0=>J .ret (zey a0)) (T9 R kk k J) (J (.exit 2) (zez)):=by kernel_rfl
theorem aeI(a:Bool):zxj R kk K .ret (zey a)=
 zxm a (fun a0=>K [tB a0] none):=by kernel_rfl
theorem aeJ:zxj R kk K (.exit 2) (zez)=
 zxn (fun a0=>K [tB a0] none):=by kernel_rfl
theorem aik{kk:Nat}(hF:kk=ag)(t3:Int)(c9:ax):T8 R kk k J t3 c9=(yd k t3 c9).bind fun e=>(Sum.elim (fun(we:(Bool×ax))=>J .ret (zew we.1 we.2)) (fun(we:ax)=>J (.exit 0) (zex we)) e):=by
 induction k generalizing t3 c9 with
 |zero=>rfl
 |succ k ih=>
  rw[alu]
  simp only[yd,Qy,ih,aD]
theorem ail{kk:Nat}(hF:kk=ag)(t4:Int)(c9:ax):T9 R kk k J t4 c9=(Qx k t4 c9).bind fun e=>(Sum.elim (fun(we:Bool)=>J .ret (zey we)) (fun(we:Unit)=>J (.exit 2) (zez)) e):=by
 induction k generalizing t4 c9 with
 |zero=>rfl
 |succ k ih=>
  rw[alv]
  simp only[Qx,zxl,ih,aD]
def Tb3:ah:=Gq.add 35 [cD] (cO cD lO (fun _ r K=>K [tB r] none))
theorem o3:aP Tryz.prog Tb3:=cP FZ Tryz.f35 (fun R kk x0 K=>Ua x0 (fun a0=>K [tB a0] none) (T8 R kk kk (zxi R kk K))) o2 (ek _ _ _ _) Tryz.func35 (by kernel_rfl) rfl (fun _ _ _ _ _ _ h=>h _ _) (fun _ _ _ _=>by kernel_rfl) fun R kk e x0 K=>by
 simp only[lO,Ua,zxk,Ub,zxm,zxn,aik (hF:=e),ail (hF:=e),aeG,aeH,aeI,aeJ,aD,<-e]
def anE:Env:=e0 [bU]
def Sb:ah:=Tb3.add 11 [bU] (cO bU mI (fun _ r K=>K [tB r] none))
theorem o4:aP Tryz.prog Sb:=cP anE Tryz.f11 (fun R kk x0 K=>Us x0 (fun a0=>K [tB a0] none)) o3 (ek _ _ _ _) Tryz.func11 (by kernel_rfl) rfl (fun _ _ _ _ _ _ h=>h _ _) (fun _ _ _ _=>by kernel_rfl) fun R kk e x0 K=>by
 simp only[mI,Us,aD]
def W6:Env:=b9.env (fun i=>bif Nat.beq i 3 then [0,1,5,6] else []) (fun i=>bif Nat.beq i 3 then [1,4,5] else []) [] [(.sl 57 (.pair (.int .i64) (.pair .str .unit))),(.int .i64)]
def UC(a:ak)(b c d:Int):Option R:=aB (ev W6 (Sb R) kk (sub [1,1,0,1,0,0] (cd Tryz.f19))) [0,1,5,6] [1,4,5] k ⟨[.aj (.sl 57 (.pair (.int .i64) (.pair .str .unit))) a []]::[tI b]::uS 3 ([tI c]::[tI d]::uS 32 []),nS 40 []⟩ J
def zfg(a:Int)(b:Bool)(c:Int):State:=⟨uS 1 ([tI a]::uS 2 ([tB b]::[tI c]::uS 33 [])),nS 40 []⟩
def zfh(a b:Int):State:=⟨uS 1 ([tI a]::uS 3 ([tI b]::uS 33 [])),nS 40 []⟩
def zye:KX R:=(zk 0 (aU W6 (Sb R) kk (sub [1,1,1] (cd Tryz.f19)) (aT W6 Tryz.f19.results.toList none K)))
theorem alF(a:ak)(b c d:Int):UC R kk (k+1) J a b c d=
 FJ a b c d (fun a0 a1 a2=>J .ret (zfg a0 a1 a2)) (UC R kk k J) (fun a0 a1=>J (.exit 0) (zfh a0 a1)):=by kernel_rfl
theorem aeZ(a:Int)(b:Bool)(c:Int):zye R kk K .ret (zfg a b c)=
 zyf a b c (fun a0=>K [tB a0] none):=by kernel_rfl
theorem ae0(a b:Int):zye R kk K (.exit 0) (zfh a b)=
 zyg a b (fun a0=>K [tB a0] none):=by kernel_rfl
theorem aiv{kk:Nat}(hF:kk=ag)(gm:ak)(oK t5 t6:Int):UC R kk k J gm oK t5 t6=(QD k gm oK t5 t6).bind fun e=>(Sum.elim (fun(we:J1)=>J .ret (zfg we.1 we.2.1 we.2.2)) (fun(we:(Int×Int))=>J (.exit 0) (zfh we.1 we.2)) e):=by
 induction k generalizing gm oK t5 t6 with
 |zero=>rfl
 |succ k ih=>
  rw[alF]
  simp only[QD,FJ,ih,aD]
def Tb5:ah:=Sb.add 19 [(.sl 57 (.pair (.int .i64) (.pair .str .unit))),(.int .i64)] (dt (.sl 57 (.pair (.int .i64) (.pair .str .unit))) (.int .i64) lP (fun _ r K=>K [tB r] none))
theorem o5:aP Tryz.prog Tb5:=dv W6 Tryz.f19 (fun R kk x0 x1 K=>QE x0 x1 (UC R kk kk (zye R kk K))) o4 (ek _ _ _ _) Tryz.func19 (by kernel_rfl) rfl (fun _ _ _ _ _ _ h=>h _ _) (fun _ _ _ _ _=>by kernel_rfl) fun R kk e x0 x1 K=>by
 simp only[lP,QE,zyf,zyg,aiv (hF:=e),aeZ,ae0,aD,<-e]
def IY:Env:=e0 [cL]
def Sc:ah:=Tb5.add 109 [cL] (cO cL yL (fun _ r K=>K [tI r] none))
theorem o6:aP Tryz.prog Sc:=cP IY Tryz.f109 (fun R kk x0 K=>YD x0 (fun a0=>K [tI a0] none)) o5 (ek _ _ _ _) Tryz.func109 (by kernel_rfl) rfl (fun _ _ _ _ _ _ h=>h _ _) (fun _ _ _ _=>by kernel_rfl) fun R kk e x0 K=>by
 simp only[yL,YD,aD]
def pO:Env:=b9.env (fun i=>bif Nat.beq i 7 then [1,4,5] else []) (fun i=>bif Nat.beq i 7 then [2,3] else []) [] [aK]
def YE(a b:Int)(c:af):Option R:=aB (ev pO (Sc R) kk (sub [1,1,1,1,0,1,0,0] (cd Tryz.f108))) [1,4,5] [2,3] k ⟨uS 1 ([.ptr 2 aK []]::uS 2 ([tI a]::[tI b]::uS 49 [])),nS 2 ((some ⟨aK,c,[]⟩)::nS 53 [])⟩ J
def zqe(a b:Int):State:=⟨uS 2 ([tI a]::[tI b]::uS 51 []),nS 56 []⟩
def zqf:State:=⟨uS 55 [],nS 56 []⟩
def EN:KX R:=(zk 0 (aU pO (Sc R) kk (sub [1,1,1,1,1] (cd Tryz.f108)) (aT pO Tryz.f108.results.toList none K)))
theorem aoF(a b:Int)(c:af):YE R kk (k+1) J a b c=
 RM a b c (fun a0 a1=>J .ret (zqe a0 a1)) (YE R kk k J) (J (.exit 0) (zqf)):=by kernel_rfl
theorem ajz(a b:Int):EN R kk K .ret (zqe a b)=
 YF a b (fun a0 a1=>K [tI a0,tI a1] none):=by kernel_rfl
theorem ajA:EN R kk K (.exit 0) (zqf)=
 YG (fun a0 a1=>K [tI a0,tI a1] none):=by kernel_rfl
theorem amC{kk:Nat}(hF:kk=ag)(t4 t5:Int)(c9:af):YE R kk k J t4 t5 c9=(yi k t4 t5 c9).bind fun e=>(Sum.elim (fun(we:(Int×Int))=>J .ret (zqe we.1 we.2)) (fun(we:Unit)=>J (.exit 0) (zqf)) e):=by
 induction k generalizing t4 t5 c9 with
 |zero=>rfl
 |succ k ih=>
  rw[aoF]
  simp only[yi,RM,ih,aD]
def Tb7:ah:=Sc.add 108 [aK] (cO aK I2 (fun _ r K=>K [tI r.1,tI r.2] none))
theorem o7:aP Tryz.prog Tb7:=cP pO Tryz.f108 (fun R kk x0 K=>HH x0 (fun a0 a1=>K [tI a0,tI a1] none) (fun a0 a1 a2=>YE R kk kk (EN R kk K) a0 a1 a2)) o6 (ek _ _ _ _) Tryz.func108 (by kernel_rfl) rfl (fun _ _ _ _ _ _ h=>h _ _) (fun _ _ _ _=>by kernel_rfl) fun R kk e x0 K=>by
 simp only[I2,acx,YF,YG,amC (hF:=e),ajz,ajA,aD,<-e]
def I5:Env:=e0 [aK]
def Sd:ah:=Tb7.add 77 [aK] (cO aK BX (fun _ r K=>K [tB r] none))
theorem o8:aP Tryz.prog Sd:=cP I5 Tryz.f77 (fun R kk x0 K=>YK x0 (fun a0=>K [tB a0] none)) o7 (ek _ _ _ _) Tryz.func77 (by kernel_rfl) rfl (fun _ _ _ _ _ _ h=>h _ _) (fun _ _ _ _=>by kernel_rfl) fun R kk e x0 K=>by
 simp only[BX,YK,aD]
def pP:Env:=b9.env (fun i=>bif Nat.beq i 2 then [1,2,5] else []) (fun i=>bif Nat.beq i 2 then [4] else []) [] [aK,(.int .i64)]
def YI(a b:Int)(c:af):Option R:=aB (ev pP (Sd R) kk (sub [1,0,1,0,0] (cd Tryz.f78))) [1,2,5] [4] k ⟨uS 1 ([tI a]::[.ptr 3 aK []]::uS 2 ([tI b]::uS 16 [])),nS 3 ((some ⟨aK,c,[]⟩)::nS 19 [])⟩ J
def zqg(a:Int):State:=⟨uS 4 ([tI a]::uS 17 []),nS 23 []⟩
def zqh:State:=⟨uS 22 [],nS 23 []⟩
def EO:KX R:=(zk 0 (aU pP (Sd R) kk (sub [1,1] (cd Tryz.f78)) (aT pP Tryz.f78.results.toList none K)))
theorem aoG(a b:Int)(c:af):YI R kk (k+1) J a b c=
 EP a b c (fun a0=>J .ret (zqg a0)) (YI R kk k J) (J (.exit 0) (zqh)):=by kernel_rfl
theorem ajB(a:Int):EO R kk K .ret (zqg a)=
 EQ a (fun a0=>K [tI a0] none):=by kernel_rfl
theorem ajC:EO R kk K (.exit 0) (zqh)=
 ER (fun a0=>K [tI a0] none):=by kernel_rfl
theorem amD{kk:Nat}(hF:kk=ag)(fx t5:Int)(dG:af):YI R kk k J fx t5 dG=(RN k fx t5 dG).bind fun e=>(Sum.elim (fun(we:Int)=>J .ret (zqg we)) (fun(we:Unit)=>J (.exit 0) (zqh)) e):=by
 induction k generalizing fx t5 dG with
 |zero=>rfl
 |succ k ih=>
  rw[aoG]
  simp only[RN,EP,ih,aD]
def Se:ah:=Sd.add 78 [aK,(.int .i64)] (dt aK (.int .i64) yN (fun _ r K=>K [tI r] none))
theorem o9:aP Tryz.prog Se:=dv pP Tryz.f78 (fun R kk x0 x1 K=>YJ x0 x1 (YI R kk kk (EO R kk K))) o8 (ek _ _ _ _) Tryz.func78 (by kernel_rfl) rfl (fun _ _ _ _ _ _ h=>h _ _) (fun _ _ _ _ _=>by kernel_rfl) fun R kk e x0 x1 K=>by
 simp only[yN,YJ,EQ,ER,amD (hF:=e),ajB,ajC,aD,<-e]
def pG:Env:=b9.env (fun i=>bif Nat.beq i 2 then [0,1,5] else []) (fun i=>bif Nat.beq i 2 then [4] else []) [] [(.sl 3 (.int .i64)),(.int .i64)]
def Yy(a:(List Int))(b c:Int):Option R:=aB (ev pG (Se R) kk (sub [1,0,1,0,0] (cd Tryz.f79))) [0,1,5] [4] k ⟨[.aj (.sl 3 (.int .i64)) a []]::[tI b]::uS 3 ([tI c]::uS 12 []),nS 19 []⟩ J
def zq8(a:Bool):State:=⟨uS 4 ([tB a]::uS 13 []),nS 19 []⟩
def zq9:State:=⟨uS 18 [],nS 19 []⟩
def ED:KX R:=(zk 0 (aU pG (Se R) kk (sub [1,1] (cd Tryz.f79)) (aT pG Tryz.f79.results.toList none K)))
theorem aoA(a:(List Int))(b c:Int):Yy R kk (k+1) J a b c=
 RG a b c (fun a0=>J .ret (zq8 a0)) (Yy R kk k J) (J (.exit 0) (zq9)):=by kernel_rfl
theorem ajt(a:Bool):ED R kk K .ret (zq8 a)=
 EE a (fun a0=>K [tB a0] none):=by kernel_rfl
theorem aju:ED R kk K (.exit 0) (zq9)=
 EF (fun a0=>K [tB a0] none):=by kernel_rfl
theorem amx{kk:Nat}(hF:kk=ag)(gm:(List Int))(mi t5:Int):Yy R kk k J gm mi t5=(Ga k gm mi t5).bind fun e=>(Sum.elim (fun(we:Bool)=>J .ret (zq8 we)) (fun(we:Unit)=>J (.exit 0) (zq9)) e):=by
 induction k generalizing gm mi t5 with
 |zero=>rfl
 |succ k ih=>
  rw[aoA]
  simp only[Ga,RG,ih,aD]
def ww:ah:=Se.add 79 [(.sl 3 (.int .i64)),(.int .i64)] (dt (.sl 3 (.int .i64)) (.int .i64) IP (fun _ r K=>K [tB r] none))
theorem o10:aP Tryz.prog ww:=dv pG Tryz.f79 (fun R kk x0 x1 K=>Yz x0 x1 (Yy R kk kk (ED R kk K))) o9 (ek _ _ _ _) Tryz.func79 (by kernel_rfl) rfl (fun _ _ _ _ _ _ h=>h _ _) (fun _ _ _ _ _=>by kernel_rfl) fun R kk e x0 x1 K=>by
 simp only[IP,Yz,EE,EF,amx (hF:=e),ajt,aju,aD,<-e]
def WX:Env:=b9.env (fun i=>bif Nat.beq i 2 then [0,1,2,7] else []) (fun i=>bif Nat.beq i 2 then [6] else []) [] [(.sl 107 (.pair (.int .i64) (.pair .str .unit))),(.int .i64),(.int .i64)]
def Um(a:ak)(b c d:Int):Option R:=aB (ev WX (ww R) kk (sub [1,0,1,0,0] (cd Tryz.f80))) [0,1,2,7] [6] k ⟨[.aj (.sl 107 (.pair (.int .i64) (.pair .str .unit))) a []]::[tI b]::[tI c]::uS 4 ([tI d]::uS 13 []),nS 22 []⟩ J
def zf6(a:Int):State:=⟨uS 6 ([tI a]::uS 14 []),nS 22 []⟩
def zf7:State:=⟨uS 21 [],nS 22 []⟩
def zxw:KX R:=(zk 0 (aU WX (ww R) kk (sub [1,1] (cd Tryz.f80)) (aT WX Tryz.f80.results.toList none K)))
theorem alz(a:ak)(b c d:Int):Um R kk (k+1) J a b c d=
 QC a b c d (fun a0=>J .ret (zf6 a0)) (Um R kk k J) (J (.exit 0) (zf7)):=by kernel_rfl
theorem aeQ(a:Int):zxw R kk K .ret (zf6 a)=
 zxx a (fun a0=>K [tI a0] none):=by kernel_rfl
theorem aeR:zxw R kk K (.exit 0) (zf7)=
 zxy (fun a0=>K [tI a0] none):=by kernel_rfl
theorem aip{kk:Nat}(hF:kk=ag)(gm:ak)(mi Zj t7:Int):Um R kk k J gm mi Zj t7=(FG k gm mi Zj t7).bind fun e=>(Sum.elim (fun(we:Int)=>J .ret (zf6 we)) (fun(we:Unit)=>J (.exit 0) (zf7)) e):=by
 induction k generalizing gm mi Zj t7 with
 |zero=>rfl
 |succ k ih=>
  rw[alz]
  simp only[FG,QC,ih,aD]
def I9:ah:=ww.add 80 [(.sl 107 (.pair (.int .i64) (.pair .str .unit))),(.int .i64),(.int .i64)] (kE (.sl 107 (.pair (.int .i64) (.pair .str .unit))) (.int .i64) (.int .i64) qS (fun _ r K=>K [tI r] none))
theorem o11:aP Tryz.prog I9:=kU WX Tryz.f80 (fun R kk x0 x1 x2 K=>Un x0 x1 x2 (Um R kk kk (zxw R kk K))) o10 (ek _ _ _ _) Tryz.func80 (by kernel_rfl) rfl (fun _ _ _ _ _ _ h=>h _ _) (fun _ _ _ _ _ _=>by kernel_rfl) fun R kk e x0 x1 x2 K=>by
 simp only[qS,Un,zxx,zxy,aip (hF:=e),aeQ,aeR,aD,<-e]
def IM:Env:=e0 [(.int .i64),(.int .u8)]
def wy:ah:=I9.add 158 [(.int .i64),(.int .u8)] (dt (.int .i64) (.int .u8) yF (fun _ r K=>K [tB r] none))
theorem o12:aP Tryz.prog wy:=dv IM Tryz.f158 (fun R kk x0 x1 K=>Yu x0 x1 (fun a0=>K [tB a0] none)) o11 (ek _ _ _ _) Tryz.func158 (by kernel_rfl) rfl (fun _ _ _ _ _ _ h=>h _ _) (fun _ _ _ _ _=>by kernel_rfl) fun R kk e x0 x1 K=>by
 simp only[yF,Yu,aD]
def pE:Env:=b9.env (fun i=>bif Nat.beq i 2 then [0,1,5] else []) (fun i=>bif Nat.beq i 2 then [4] else []) [] [(.int .i64),.str]
def Ys(a:Int)(b:ByteArray)(c:Int):Option R:=aB (ev pE (wy R) kk (sub [1,0,1,0,0] (cd Tryz.f110))) [0,1,5] [4] k ⟨[tI a]::[tS b]::uS 3 ([tI c]::uS 13 []),nS 20 []⟩ J
def zq4(a:Int):State:=⟨uS 4 ([tI a]::uS 14 []),nS 20 []⟩
def zq5:State:=⟨uS 19 [],nS 20 []⟩
def Ey:KX R:=(zk 0 (aU pE (wy R) kk (sub [1,1] (cd Tryz.f110)) (aT pE Tryz.f110.results.toList none K)))
theorem aoy(a:Int)(b:ByteArray)(c:Int):Ys R kk (k+1) J a b c=
 RF a b c (fun a0=>J .ret (zq4 a0)) (Ys R kk k J) (J (.exit 0) (zq5)):=by kernel_rfl
theorem ajp(a:Int):Ey R kk K .ret (zq4 a)=
 Ez a (fun a0=>K [tI a0] none):=by kernel_rfl
theorem ajq:Ey R kk K (.exit 0) (zq5)=
 z167 (fun a0=>K [tI a0] none):=by kernel_rfl
theorem amv{kk:Nat}(hF:kk=ag)(l5:Int)(jH:ByteArray)(t5:Int):Ys R kk k J l5 jH t5=(F9 k l5 jH t5).bind fun e=>(Sum.elim (fun(we:Int)=>J .ret (zq4 we)) (fun(we:Unit)=>J (.exit 0) (zq5)) e):=by
 induction k generalizing l5 jH t5 with
 |zero=>rfl
 |succ k ih=>
  rw[aoy]
  simp only[F9,RF,ih,aD]
def Ja:ah:=wy.add 110 [(.int .i64),.str] (dt (.int .i64) .str IL (fun _ r K=>K [tI r] none))
theorem o13:aP Tryz.prog Ja:=dv pE Tryz.f110 (fun R kk x0 x1 K=>Yt x0 x1 (Ys R kk kk (Ey R kk K))) o12 (ek _ _ _ _) Tryz.func110 (by kernel_rfl) rfl (fun _ _ _ _ _ _ h=>h _ _) (fun _ _ _ _ _=>by kernel_rfl) fun R kk e x0 x1 K=>by
 simp only[IL,Yt,Ez,z167,amv (hF:=e),ajp,ajq,aD,<-e]
def IU:Env:=e0 [(.int .u8)]
def Jb:ah:=Ja.add 207 [(.int .u8)] (cO (.int .u8) yH (fun _ r K=>K [tI r] none))
theorem o14:aP Tryz.prog Jb:=cP IU Tryz.f207 (fun R kk x0 K=>EG x0 (fun a0=>K [tI a0] none)) o13 (ek _ _ _ _) Tryz.func207 (by kernel_rfl) rfl (fun _ _ _ _ _ _ h=>h _ _) (fun _ _ _ _=>by kernel_rfl) fun R kk e x0 K=>by
 simp only[yH,EG,aD]
def IV:Env:=e0 [.str,(.int .i64)]
def Jc:ah:=Jb.add 159 [.str,(.int .i64)] (dt .str (.int .i64) yI (fun _ r K=>K [tI r.1,tI r.2.1,tI r.2.2] none))
theorem o15:aP Tryz.prog Jc:=dv IV Tryz.f159 (fun R kk x0 x1 K=>RH x0 x1 (fun a0 a1 a2=>K [tI a0,tI a1,tI a2] none)) o14 (ek _ _ _ _) Tryz.func159 (by kernel_rfl) rfl (fun _ _ _ _ _ _ h=>h _ _) (fun _ _ _ _ _=>by kernel_rfl) fun R kk e x0 x1 K=>by
 simp only[yI,RH,aD]
def IW:Env:=e0 [.str,(.int .i64)]
def wA:ah:=Jc.add 160 [.str,(.int .i64)] (dt .str (.int .i64) yJ (fun _ r K=>K [tI r.1,tI r.2.1,tI r.2.2] none))
theorem o16:aP Tryz.prog wA:=dv IW Tryz.f160 (fun R kk x0 x1 K=>RI x0 x1 (fun a0 a1 a2=>K [tI a0,tI a1,tI a2] none)) o15 (ek _ _ _ _) Tryz.func160 (by kernel_rfl) rfl (fun _ _ _ _ _ _ h=>h _ _) (fun _ _ _ _ _=>by kernel_rfl) fun R kk e x0 x1 K=>by
 simp only[yJ,RI,aD]
def pK:Env:=b9.env (fun i=>bif Nat.beq i 2 then [0,1,2,7] else []) (fun i=>bif Nat.beq i 2 then [6] else []) [] [(.sl 245 (.pair (.int .i64) (.pair .str .unit))),(.int .i64),(.int .i64)]
def YB(a:ak)(b c d:Int):Option R:=aB (ev pK (wA R) kk (sub [1,0,1,0,0] (cd Tryz.f161))) [0,1,2,7] [6] k ⟨[.aj (.sl 245 (.pair (.int .i64) (.pair .str .unit))) a []]::[tI b]::[tI c]::uS 4 ([tI d]::uS 12 []),nS 21 []⟩ J
def zqc(a:Bool):State:=⟨uS 6 ([tB a]::uS 13 []),nS 21 []⟩
def zqd:State:=⟨uS 20 [],nS 21 []⟩
def EK:KX R:=(zk 0 (aU pK (wA R) kk (sub [1,1] (cd Tryz.f161)) (aT pK Tryz.f161.results.toList none K)))
theorem aoD(a:ak)(b c d:Int):YB R kk (k+1) J a b c d=
 RL a b c d (fun a0=>J .ret (zqc a0)) (YB R kk k J) (J (.exit 0) (zqd)):=by kernel_rfl
theorem ajx(a:Bool):EK R kk K .ret (zqc a)=
 EL a (fun a0=>K [tB a0] none):=by kernel_rfl
theorem ajy:EK R kk K (.exit 0) (zqd)=
 EM (fun a0=>K [tB a0] none):=by kernel_rfl
theorem amA{kk:Nat}(hF:kk=ag)(gm:ak)(mi uR t7:Int):YB R kk k J gm mi uR t7=(Gb k gm mi uR t7).bind fun e=>(Sum.elim (fun(we:Bool)=>J .ret (zqc we)) (fun(we:Unit)=>J (.exit 0) (zqd)) e):=by
 induction k generalizing gm mi uR t7 with
 |zero=>rfl
 |succ k ih=>
  rw[aoD]
  simp only[Gb,RL,ih,aD]
def wC:ah:=wA.add 161 [(.sl 245 (.pair (.int .i64) (.pair .str .unit))),(.int .i64),(.int .i64)] (kE (.sl 245 (.pair (.int .i64) (.pair .str .unit))) (.int .i64) (.int .i64) IX (fun _ r K=>K [tB r] none))
theorem o17:aP Tryz.prog wC:=kU pK Tryz.f161 (fun R kk x0 x1 x2 K=>YC x0 x1 x2 (YB R kk kk (EK R kk K))) o16 (ek _ _ _ _) Tryz.func161 (by kernel_rfl) rfl (fun _ _ _ _ _ _ h=>h _ _) (fun _ _ _ _ _ _=>by kernel_rfl) fun R kk e x0 x1 x2 K=>by
 simp only[IX,YC,EL,EM,amA (hF:=e),ajx,ajy,aD,<-e]
def pJ:Env:=b9.env (fun i=>bif Nat.beq i 3 then [0,5,6] else []) (fun i=>bif Nat.beq i 3 then [2,3,4,5] else []) [] [.str]
def YA(a:ByteArray)(b:ak)(c:Int):Option R:=aB (ev pJ (wC R) kk (sub [1,1,1,0,0,0] (cd Tryz.f111))) [0,5,6] [2,3,4,5] k ⟨[tS a]::uS 4 ([.aj (.sl 245 (.pair (.int .i64) (.pair .str .unit))) b [[]]]::[tI c]::uS 61 []),nS 69 []⟩ J
def zqa(a:ak)(b c:Int)(d:ak):State:=⟨uS 2 ([.aj (.sl 245 (.pair (.int .i64) (.pair .str .unit))) a [[]]]::[tI b]::[tI c]::[.aj (.sl 245 (.pair (.int .i64) (.pair .str .unit))) d [[]]]::uS 62 []),nS 69 []⟩
def zqb(a:ak):State:=⟨uS 5 ([.aj (.sl 245 (.pair (.int .i64) (.pair .str .unit))) a [[]]]::uS 62 []),nS 69 []⟩
def EH:KX R:=(zk 0 (aU pJ (wC R) kk (sub [1,1,1,1] (cd Tryz.f111)) (aT pJ Tryz.f111.results.toList none K)))
theorem aoC(a:ByteArray)(b:ak)(c:Int):YA R kk (k+1) J a b c=
 RK a b c (fun a0 a1 a2 a3=>J .ret (zqa a0 a1 a2 a3)) (YA R kk k J) (fun a0=>J (.exit 0) (zqb a0)):=by kernel_rfl
theorem ajv(a:ak)(b c:Int)(d:ak):EH R kk K .ret (zqa a b c d)=
 EI a b c d (fun a0 a1 a2=>K [.aj (.sl 245 (.pair (.int .i64) (.pair .str .unit))) a0 [[]],tI a1,tI a2] none):=by kernel_rfl
theorem ajw(a:ak):EH R kk K (.exit 0) (zqb a)=
 EJ a (fun a0 a1 a2=>K [.aj (.sl 245 (.pair (.int .i64) (.pair .str .unit))) a0 [],tI a1,tI a2] none):=by kernel_rfl
theorem amz{kk:Nat}(hF:kk=ag)(oi:ByteArray)(t5:ak)(t6:Int):YA R kk k J oi t5 t6=(BH k oi t5 t6).bind fun e=>(Sum.elim (fun(we:rj)=>J .ret (zqa we.1 we.2.1 we.2.2.1 we.2.2.2)) (fun(we:ak)=>J (.exit 0) (zqb we)) e):=by
 induction k generalizing oi t5 t6 with
 |zero=>rfl
 |succ k ih=>
  rw[aoC]
  simp only[BH,RK,ih,aD]
def Jd:ah:=wC.add 111 [.str] (cO .str yK (fun _ r K=>(Sum.elim (fun(wr:jx)=>K [.aj (.sl 245 (.pair (.int .i64) (.pair .str .unit))) wr.1 [[]],tI wr.2.1,tI wr.2.2] none) (fun(wr:jx)=>K [.aj (.sl 245 (.pair (.int .i64) (.pair .str .unit))) wr.1 [],tI wr.2.1,tI wr.2.2] none) r)))
theorem o18:aP Tryz.prog Jd:=cP pJ Tryz.f111 (fun R kk x0 K=>RJ x0 (YA R kk kk (EH R kk K))) o17 (ek _ _ _ _) Tryz.func111 (by kernel_rfl) rfl (fun _ _ _ _ _ _ h=>Rq (fun _=>h _ _) (fun _=>h _ _)) (fun _ _ _ _=>by kernel_rfl) fun R kk e x0 K=>by
 simp only[yK,RJ,EI,EJ,amz (hF:=e),ajv,ajw,aD,<-e]
def IZ:Env:=e0 [cL,.str]
def rh:ah:=Jd.add 81 [cL,.str] (dt cL .str mO (fun _ r K=>K [tI r] none))
theorem o19:aP Tryz.prog rh:=dv IZ Tryz.f81 (fun R kk x0 x1 K=>HF x0 x1 (fun a0=>K [tI a0] none)) o18 (ek _ _ _ _) Tryz.func81 (by kernel_rfl) rfl (fun _ _ _ _ _ _ h=>h _ _) (fun _ _ _ _ _=>by kernel_rfl) fun R kk e x0 x1 K=>by
 simp only[mO,HF,aD]
def F0:Env:=b9.env (fun i=>bif Nat.beq i 7 then [1,5,6] else bif Nat.beq i 16 then [1,5,7] else []) (fun i=>bif Nat.beq i 7 then [1,2,3,4,5] else bif Nat.beq i 16 then [1,2,3,4] else []) [] [cz]
def Ue(a b:Int)(c:ar):Option R:=aB (ev F0 (rh R) kk (sub [1,1,1,1,0,1,0,0] (cd Tryz.f60))) [1,5,6] [1,2,3,4,5] k ⟨uS 1 ([.ptr 2 cz []]::uS 3 ([tI a]::[tI b]::uS 109 [])),nS 2 ((some ⟨cz,c,[]⟩)::nS 114 [])⟩ J
def zf0(a b c d:Int)(e:ar):State:=⟨uS 1 ([.ptr 2 cz []]::[tI a]::[tI b]::[tI c]::[tI d]::uS 110 []),nS 2 ((some ⟨cz,e,[]⟩)::nS 114 [])⟩
def zf1(a:Int)(b:ar):State:=⟨uS 1 ([.ptr 2 cz []]::uS 3 ([tI a]::uS 110 [])),nS 2 ((some ⟨cz,b,[]⟩)::nS 114 [])⟩
def zxo:KX R:=(zk 0 (aU F0 (rh R) kk (sub [1,1,1,1,1] (cd Tryz.f60)) (aT F0 Tryz.f60.results.toList none K)))
def Uf(a b:Int)(c:ar):Option R:=aB (ev F0 (rh R) kk (sub [1,1,1,1,1,0,1,0,0] (cd Tryz.f60))) [1,5,7] [1,2,3,4] k ⟨uS 1 ([.ptr 2 cz []]::uS 3 ([tI a]::uS 1 ([tI b]::uS 108 []))),nS 2 ((some ⟨cz,c,[]⟩)::nS 114 [])⟩ J
def zf2(a b c:Int)(d:ar):State:=⟨uS 1 ([.ptr 2 cz []]::[tI a]::[tI b]::[tI c]::uS 111 []),nS 2 ((some ⟨cz,d,[]⟩)::nS 114 [])⟩
def zf3(a:ar):State:=⟨uS 1 ([.ptr 2 cz []]::uS 114 []),nS 2 ((some ⟨cz,a,[]⟩)::nS 114 [])⟩
def zxp:KX R:=(zk 2 (aU F0 (rh R) kk (sub [1,1,1,1,1,1] (cd Tryz.f60)) (aT F0 Tryz.f60.results.toList none K)))
theorem alw(a b:Int)(c:ar):Ue R kk (k+1) J a b c=
 Qz a b c (fun a0 a1 a2 a3 a4=>J .ret (zf0 a0 a1 a2 a3 a4)) (Ue R kk k J) (fun a0 a1=>J (.exit 0) (zf1 a0 a1)):=by kernel_rfl
theorem aeK(a b c d:Int)(e:ar):zxo R kk K .ret (zf0 a b c d e)=
 zxq a b c d e (fun a0 a1 a2=>K [tI a0,tI a1,tI a2] none):=by kernel_rfl
theorem aeL(a:Int)(b:ar):zxo R kk K (.exit 0) (zf1 a b)=
 Uh a b (Uf R kk kk (zxp R kk K)):=by kernel_rfl
theorem alx(a b:Int)(c:ar):Uf R kk (k+1) J a b c=
 QA a b c (fun a0 a1 a2 a3=>J .ret (zf2 a0 a1 a2 a3)) (Uf R kk k J) (fun a0=>J (.exit 2) (zf3 a0)):=by kernel_rfl
theorem aeM(a b c:Int)(d:ar):zxp R kk K .ret (zf2 a b c d)=
 zxr a b c d (fun a0 a1 a2=>K [tI a0,tI a1,tI a2] none):=by kernel_rfl
theorem aeN(a:ar):zxp R kk K (.exit 2) (zf3 a)=
 Ui a (fun a0 a1 a2=>K [tI a0,tI a1,tI a2] none):=by kernel_rfl
theorem aim{kk:Nat}(hF:kk=ag)(t5 t6:Int)(c9:ar):Ue R kk k J t5 t6 c9=(FE k t5 t6 c9).bind fun e=>(Sum.elim (fun(we:(Int×Int×Int×Int×ar))=>J .ret (zf0 we.1 we.2.1 we.2.2.1 we.2.2.2.1 we.2.2.2.2)) (fun(we:(Int×ar))=>J (.exit 0) (zf1 we.1 we.2)) e):=by
 induction k generalizing t5 t6 c9 with
 |zero=>rfl
 |succ k ih=>
  rw[alw]
  simp only[FE,Qz,ih,aD]
theorem ain{kk:Nat}(hF:kk=ag)(t5 t7:Int)(c9:ar):Uf R kk k J t5 t7 c9=(FF k t5 t7 c9).bind fun e=>(Sum.elim (fun(we:(Int×Int×Int×ar))=>J .ret (zf2 we.1 we.2.1 we.2.2.1 we.2.2.2)) (fun(we:ar)=>J (.exit 2) (zf3 we)) e):=by
 induction k generalizing t5 t7 c9 with
 |zero=>rfl
 |succ k ih=>
  rw[alx]
  simp only[FF,QA,ih,aD]
def Je:ah:=rh.add 60 [cz] (cO cz sU (fun _ r K=>K [tI r.1,tI r.2.1,tI r.2.2] none))
theorem o20:aP Tryz.prog Je:=cP F0 Tryz.f60 (fun R kk x0 K=>Ug x0 (fun a0 a1 a2=>K [tI a0,tI a1,tI a2] none) (Ue R kk kk (zxo R kk K))) o19 (ek _ _ _ _) Tryz.func60 (by kernel_rfl) rfl (fun _ _ _ _ _ _ h=>h _ _) (fun _ _ _ _=>by kernel_rfl) fun R kk e x0 K=>by
 simp only[sU,Ug,zxq,Uh,zxr,Ui,aim (hF:=e),ain (hF:=e),aeK,aeL,aeM,aeN,aD,<-e]
def IJ:Env:=e0 [(.int .u8)]
def wD:ah:=Je.add 208 [(.int .u8)] (cO (.int .u8) II (fun _ r K=>K [tB r] none))
theorem o21:aP Tryz.prog wD:=cP IJ Tryz.f208 (fun R kk x0 K=>Yo x0 (fun a0=>K [tB a0] none)) o20 (ek _ _ _ _) Tryz.func208 (by kernel_rfl) rfl (fun _ _ _ _ _ _ h=>h _ _) (fun _ _ _ _=>by kernel_rfl) fun R kk e x0 K=>by
 simp only[II,Yo,aD]
def pA:Env:=b9.env (fun i=>bif Nat.beq i 2 then [0,3] else []) (fun i=>bif Nat.beq i 2 then [2] else []) [] [.str]
def Yl(a:ByteArray)(b:Int):Option R:=aB (ev pA (wD R) kk (sub [1,0,1,0,0] (cd Tryz.f162))) [0,3] [2] k ⟨[tS a]::uS 2 ([tI b]::uS 11 []),nS 16 []⟩ J
def zq1(a:Bool):State:=⟨uS 2 ([tB a]::uS 12 []),nS 16 []⟩
def zq2:State:=⟨uS 15 [],nS 16 []⟩
def z160:KX R:=(zk 0 (aU pA (wD R) kk (sub [1,1] (cd Tryz.f162)) (aT pA Tryz.f162.results.toList none K)))
theorem aow(a:ByteArray)(b:Int):Yl R kk (k+1) J a b=
 Yn a b (fun a0=>J .ret (zq1 a0)) (Yl R kk k J) (J (.exit 0) (zq2)):=by kernel_rfl
theorem ajm(a:Bool):z160 R kk K .ret (zq1 a)=
 Eu a (fun a0=>K [tB a0] none):=by kernel_rfl
theorem ajn:z160 R kk K (.exit 0) (zq2)=
 z162 (fun a0=>K [tB a0] none):=by kernel_rfl
theorem amt{kk:Nat}(hF:kk=ag)(iV:ByteArray)(t3:Int):Yl R kk k J iV t3=(HD k iV t3).bind fun e=>(Sum.elim (fun(we:Bool)=>J .ret (zq1 we)) (fun(we:Unit)=>J (.exit 0) (zq2)) e):=by
 induction k generalizing iV t3 with
 |zero=>rfl
 |succ k ih=>
  rw[aow]
  simp only[HD,Yn,ih,aD]
def Jf:ah:=wD.add 162 [.str] (cO .str Gm (fun _ r K=>K [tB r] none))
theorem o22:aP Tryz.prog Jf:=cP pA Tryz.f162 (fun R kk x0 K=>Ym x0 (Yl R kk kk (z160 R kk K))) o21 (ek _ _ _ _) Tryz.func162 (by kernel_rfl) rfl (fun _ _ _ _ _ _ h=>h _ _) (fun _ _ _ _=>by kernel_rfl) fun R kk e x0 K=>by
 simp only[Gm,Ym,Eu,z162,amt (hF:=e),ajm,ajn,aD,<-e]
def anv:Env:=e0 [.str]
def Jg:ah:=Jf.add 112 [.str] (cO .str sM (fun _ r K=>K [tB r] none))
theorem o23:aP Tryz.prog Jg:=cP anv Tryz.f112 (fun R kk x0 K=>TI x0 (fun a0=>K [tB a0] none)) o22 (ek _ _ _ _) Tryz.func112 (by kernel_rfl) rfl (fun _ _ _ _ _ _ h=>h _ _) (fun _ _ _ _=>by kernel_rfl) fun R kk e x0 K=>by
 simp only[sM,TI,aD]
def anB:Env:=e0 [.str,(.int .i64)]
def wE:ah:=Jg.add 82 [.str,(.int .i64)] (dt .str (.int .i64) qR (fun _ r K=>K [tB r] none))
theorem o24:aP Tryz.prog wE:=dv anB Tryz.f82 (fun R kk x0 x1 K=>Ud x0 x1 (fun a0=>K [tB a0] none)) o23 (ek _ _ _ _) Tryz.func82 (by kernel_rfl) rfl (fun _ _ _ _ _ _ h=>h _ _) (fun _ _ _ _ _=>by kernel_rfl) fun R kk e x0 x1 K=>by
 simp only[qR,Ud,aD]
def pC:Env:=b9.env (fun i=>bif Nat.beq i 5 then [0,4,5] else []) (fun i=>bif Nat.beq i 5 then [4] else []) [] [.str]
def Yp(a:ByteArray)(b c:Int):Option R:=aB (ev pC (wE R) kk (sub [1,1,1,0,1,0,0] (cd Tryz.f113))) [0,4,5] [4] k ⟨[tS a]::uS 3 ([tI b]::[tI c]::uS 28 []),nS 35 []⟩ J
def zq3(a:Int):State:=⟨uS 4 ([tI a]::uS 29 []),nS 35 []⟩
def Pq:KX R:=(zk 0 (aU pC (wE R) kk (sub [1,1,1,1] (cd Tryz.f113)) (aT pC Tryz.f113.results.toList none K)))
theorem aox(a:ByteArray)(b c:Int):Yp R kk (k+1) J a b c=
 Yr a b c (Yp R kk k J) (fun a0=>J (.exit 0) (zq3 a0)):=by kernel_rfl
theorem ajo(a:Int):Pq R kk K (.exit 0) (zq3 a)=
 Ew a (fun a0 a1=>K [tI a0,tB a1] none):=by kernel_rfl
theorem amu{kk:Nat}(hF:kk=ag)(iV:ByteArray)(t4 t5:Int):Yp R kk k J iV t4 t5=(HE k iV t4 t5).bind fun e=>J (.exit 0) (zq3 e):=by
 induction k generalizing iV t4 t5 with
 |zero=>rfl
 |succ k ih=>
  rw[aox]
  simp only[HE,Yr,ih,aD]
def Jh:ah:=wE.add 113 [.str] (cO .str IK (fun _ r K=>K [tI r.1,tB r.2] none))
theorem o25:aP Tryz.prog Jh:=cP pC Tryz.f113 (fun R kk x0 K=>Yq x0 (fun a0 a1=>K [tI a0,tB a1] none) (Yp R kk kk (Pq R kk K))) o24 (ek _ _ _ _) Tryz.func113 (by kernel_rfl) rfl (fun _ _ _ _ _ _ h=>h _ _) (fun _ _ _ _=>by kernel_rfl) fun R kk e x0 K=>by
 simp only[IK,Yq,Ew,amu (hF:=e),ajo,aD,<-e]
def I8:Env:=e0 [.str]
def wF:ah:=Jh.add 83 [.str] (cO .str Gp (fun _ r K=>K [tB r] none))
theorem o26:aP Tryz.prog wF:=cP I8 Tryz.f83 (fun R kk x0 K=>YN x0 (fun a0=>K [tB a0] none)) o25 (ek _ _ _ _) Tryz.func83 (by kernel_rfl) rfl (fun _ _ _ _ _ _ h=>h _ _) (fun _ _ _ _=>by kernel_rfl) fun R kk e x0 K=>by
 simp only[Gp,YN,aD]
def WR:Env:=b9.env (fun i=>bif Nat.beq i 2 then [0,1,2,7] else []) (fun i=>bif Nat.beq i 2 then [6] else []) [] [(.sl 109 (.pair .str (.pair .str .unit))),(.int .i64),.str]
def TP(a:aO)(b:Int)(c:ByteArray)(d:Int):Option R:=aB (ev WR (wF R) kk (sub [1,0,1,0,0] (cd Tryz.f114))) [0,1,2,7] [6] k ⟨[.aj (.sl 109 (.pair .str (.pair .str .unit))) a []]::[tI b]::[tS c]::uS 4 ([tI d]::uS 13 []),nS 22 []⟩ J
def zel(a:Int):State:=⟨uS 6 ([tI a]::uS 14 []),nS 22 []⟩
def zem:State:=⟨uS 21 [],nS 22 []⟩
def zwt:KX R:=(zk 0 (aU WR (wF R) kk (sub [1,1] (cd Tryz.f114)) (aT WR Tryz.f114.results.toList none K)))
theorem alm(a:aO)(b:Int)(c:ByteArray)(d:Int):TP R kk (k+1) J a b c d=
 Qp a b c d (fun a0=>J .ret (zel a0)) (TP R kk k J) (J (.exit 0) (zem)):=by kernel_rfl
theorem aeo(a:Int):zwt R kk K .ret (zel a)=
 zwu a (fun a0=>K [tI a0] none):=by kernel_rfl
theorem aep:zwt R kk K (.exit 0) (zem)=
 zwv (fun a0=>K [tI a0] none):=by kernel_rfl
theorem ah2{kk:Nat}(hF:kk=ag)(gm:aO)(mi:Int)(ot:ByteArray)(t7:Int):TP R kk k J gm mi ot t7=(Fz k gm mi ot t7).bind fun e=>(Sum.elim (fun(we:Int)=>J .ret (zel we)) (fun(we:Unit)=>J (.exit 0) (zem)) e):=by
 induction k generalizing gm mi ot t7 with
 |zero=>rfl
 |succ k ih=>
  rw[alm]
  simp only[Fz,Qp,ih,aD]
def Ji:ah:=wF.add 114 [(.sl 109 (.pair .str (.pair .str .unit))),(.int .i64),.str] (kE (.sl 109 (.pair .str (.pair .str .unit))) (.int .i64) .str qQ (fun _ r K=>K [tI r] none))
theorem o27:aP Tryz.prog Ji:=kU WR Tryz.f114 (fun R kk x0 x1 x2 K=>TQ x0 x1 x2 (TP R kk kk (zwt R kk K))) o26 (ek _ _ _ _) Tryz.func114 (by kernel_rfl) rfl (fun _ _ _ _ _ _ h=>h _ _) (fun _ _ _ _ _ _=>by kernel_rfl) fun R kk e x0 x1 x2 K=>by
 simp only[qQ,TQ,zwu,zwv,ah2 (hF:=e),aeo,aep,aD,<-e]
def anw:Env:=e0 [(.sl 109 (.pair .str (.pair .str .unit))),.str]
def wG:ah:=Ji.add 84 [(.sl 109 (.pair .str (.pair .str .unit))),.str] (dt (.sl 109 (.pair .str (.pair .str .unit))) .str sN (fun _ r K=>K [tS r.1,tB r.2] none))
theorem o28:aP Tryz.prog wG:=dv anw Tryz.f84 (fun R kk x0 x1 K=>TJ x0 x1 (fun a0 a1=>K [tS a0,tB a1] none)) o27 (ek _ _ _ _) Tryz.func84 (by kernel_rfl) rfl (fun _ _ _ _ _ _ h=>h _ _) (fun _ _ _ _ _=>by kernel_rfl) fun R kk e x0 x1 K=>by
 simp only[sN,TJ,aD]
def pF:Env:=b9.env (fun i=>bif Nat.beq i 4 then [0,1,5] else []) (fun i=>bif Nat.beq i 4 then [4] else []) [] [(.int .i64),(.int .i64)]
def Yv(a b c:Int):Option R:=aB (ev pF (wG R) kk (sub [1,1,0,1,0,0] (cd Tryz.f163))) [0,1,5] [4] k ⟨[tI a]::[tI b]::uS 3 ([tI c]::uS 29 []),nS 36 []⟩ J
def zq6(a:Bool):State:=⟨uS 4 ([tB a]::uS 30 []),nS 36 []⟩
def zq7:State:=⟨uS 35 [],nS 36 []⟩
def z168:KX R:=(zk 0 (aU pF (wG R) kk (sub [1,1,1] (cd Tryz.f163)) (aT pF Tryz.f163.results.toList none K)))
theorem aoz(a b c:Int):Yv R kk (k+1) J a b c=
 EA a b c (fun a0=>J .ret (zq6 a0)) (Yv R kk k J) (J (.exit 0) (zq7)):=by kernel_rfl
theorem ajr(a:Bool):z168 R kk K .ret (zq6 a)=
 EB a (fun a0=>K [tB a0] none):=by kernel_rfl
theorem ajs:z168 R kk K (.exit 0) (zq7)=
 EC (fun a0=>K [tB a0] none):=by kernel_rfl
theorem amw{kk:Nat}(hF:kk=ag)(lY tQ t5:Int):Yv R kk k J lY tQ t5=(Yw k lY tQ t5).bind fun e=>(Sum.elim (fun(we:Bool)=>J .ret (zq6 we)) (fun(we:Unit)=>J (.exit 0) (zq7)) e):=by
 induction k generalizing lY tQ t5 with
 |zero=>rfl
 |succ k ih=>
  rw[aoz]
  simp only[Yw,EA,ih,aD]
def Jj:ah:=wG.add 163 [(.int .i64),(.int .i64)] (dt (.int .i64) (.int .i64) Gn (fun _ r K=>K [tB r] none))
theorem o29:aP Tryz.prog Jj:=dv pF Tryz.f163 (fun R kk x0 x1 K=>Yx x0 x1 (fun a0=>K [tB a0] none) (Yv R kk kk (z168 R kk K))) o28 (ek _ _ _ _) Tryz.func163 (by kernel_rfl) rfl (fun _ _ _ _ _ _ h=>h _ _) (fun _ _ _ _ _=>by kernel_rfl) fun R kk e x0 x1 K=>by
 simp only[Gn,Yx,EB,EC,amw (hF:=e),ajr,ajs,aD,<-e]
def I0:Env:=e0 [cL,cL]
def wH:ah:=Jj.add 115 [cL,cL] (dt cL cL vm (fun _ r K=>K [tB r] none))
theorem o30:aP Tryz.prog wH:=dv I0 Tryz.f115 (fun R kk x0 x1 K=>HG x0 x1 (fun a0=>K [tB a0] none)) o29 (ek _ _ _ _) Tryz.func115 (by kernel_rfl) rfl (fun _ _ _ _ _ _ h=>h _ _) (fun _ _ _ _ _=>by kernel_rfl) fun R kk e x0 x1 K=>by
 simp only[vm,HG,aD]
def WO:Env:=b9.env (fun i=>bif Nat.beq i 4 then [0,4] else []) (fun i=>bif Nat.beq i 4 then [2,3] else []) [] [(.sl 109 (.pair .str (.pair .str .unit)))]
def TK(a:aO)(b:Int):Option R:=aB (ev WO (wH R) kk (sub [1,1,0,1,0,0] (cd Tryz.f116))) [0,4] [2,3] k ⟨[.aj (.sl 109 (.pair .str (.pair .str .unit))) a []]::uS 3 ([tI b]::uS 19 []),nS 25 []⟩ J
def zei(a b:Int):State:=⟨uS 2 ([tI a]::[tI b]::uS 20 []),nS 25 []⟩
def zej:State:=⟨uS 24 [],nS 25 []⟩
def zwn:KX R:=(zk 0 (aU WO (wH R) kk (sub [1,1,1] (cd Tryz.f116)) (aT WO Tryz.f116.results.toList none K)))
theorem alj(a:aO)(b:Int):TK R kk (k+1) J a b=
 Qo a b (fun a0 a1=>J .ret (zei a0 a1)) (TK R kk k J) (J (.exit 0) (zej)):=by kernel_rfl
theorem ael(a b:Int):zwn R kk K .ret (zei a b)=
 zwo a b (fun a0 a1=>K [tI a0,tI a1] none):=by kernel_rfl
theorem aem:zwn R kk K (.exit 0) (zej)=
 zwp (fun a0 a1=>K [tI a0,tI a1] none):=by kernel_rfl
theorem ah0{kk:Nat}(hF:kk=ag)(gm:aO)(t4:Int):TK R kk k J gm t4=(Fy k gm t4).bind fun e=>(Sum.elim (fun(we:(Int×Int))=>J .ret (zei we.1 we.2)) (fun(we:Unit)=>J (.exit 0) (zej)) e):=by
 induction k generalizing gm t4 with
 |zero=>rfl
 |succ k ih=>
  rw[alj]
  simp only[Fy,Qo,ih,aD]
def c8:ah:=wH.add 116 [(.sl 109 (.pair .str (.pair .str .unit)))] (cO (.sl 109 (.pair .str (.pair .str .unit))) sO (fun _ r K=>K [tI r.1,tI r.2] none))
theorem o31:aP Tryz.prog c8:=cP WO Tryz.f116 (fun R kk x0 K=>TL x0 (fun a0 a1=>K [tI a0,tI a1] none) (TK R kk kk (zwn R kk K))) o30 (ek _ _ _ _) Tryz.func116 (by kernel_rfl) rfl (fun _ _ _ _ _ _ h=>h _ _) (fun _ _ _ _=>by kernel_rfl) fun R kk e x0 K=>by
 simp only[sO,TL,zwo,zwp,ah0 (hF:=e),ael,aem,aD,<-e]
def zv:Env:={b9.env (fun i=>bif Nat.beq i 27 then [3,4,5,7,8,13] else []) (fun i=>bif Nat.beq i 27 then [6] else []) [] [cB,aK,aK] with join:=fun i=>bif Nat.beq i 2 then some [3,4,5,23] else bif Nat.beq i 3 then some [3,4,5] else bif Nat.beq i 6 then some [3,4,5,7,8,48] else bif Nat.beq i 7 then some [3,4,5,7,8] else bif Nat.beq i 8 then some [3,4,5,7,8,65] else bif Nat.beq i 9 then some [3,4,5,7,8] else bif Nat.beq i 10 then some [3,4,5,7,8,84] else bif Nat.beq i 11 then some [3,4,5,7,8] else bif Nat.beq i 35 then some [] else bif Nat.beq i 21 then some [140] else bif Nat.beq i 25 then some [3,4,5,7,8,156] else bif Nat.beq i 26 then some [3,4,5,7,8] else bif Nat.beq i 29 then some [3,4,5,7,8,13] else bif Nat.beq i 32 then some [3,4,5,7,8,13] else bif Nat.beq i 28 then some [3,4,5,7,8,13] else none}
def N6(a:Bool)(b:aF)(c d:af):Option R:=ev zv (c8 R) kk (sub [1,0,1] (cd Tryz.f85)) ⟨uS 3 ([.ptr 4 cB []]::[.ptr 5 aK []]::[.ptr 6 aK []]::uS 17 ([tB a]::uS 170 [])),nS 4 ((some ⟨cB,b,[]⟩)::(some ⟨aK,c,[]⟩)::(some ⟨aK,d,[]⟩)::nS 188 [])⟩ (aU zv (c8 R) kk (sub [1,1] (cd Tryz.f85)) (aT zv Tryz.f85.results.toList none K))
def N7(a:aF)(b c:af):Option R:=ev zv (c8 R) kk (sub [1,1] (cd Tryz.f85)) ⟨uS 3 ([.ptr 4 cB []]::[.ptr 5 aK []]::[.ptr 6 aK []]::uS 188 []),nS 4 ((some ⟨cB,a,[]⟩)::(some ⟨aK,b,[]⟩)::(some ⟨aK,c,[]⟩)::nS 188 [])⟩ (aT zv Tryz.f85.results.toList none K)
def N8(a b:Int)(c:Bool)(d:aF)(e f:af):Option R:=ev zv (c8 R) kk (sub [1,1,1,1,0,1] (cd Tryz.f85)) ⟨uS 3 ([.ptr 4 cB []]::[.ptr 5 aK []]::[.ptr 6 aK []]::uS 1 ([tI a]::[tI b]::uS 39 ([tB c]::uS 145 []))),nS 4 ((some ⟨cB,d,[]⟩)::(some ⟨aK,e,[]⟩)::(some ⟨aK,f,[]⟩)::nS 188 [])⟩ (aU zv (c8 R) kk (sub [1,1,1,1,1] (cd Tryz.f85)) (aT zv Tryz.f85.results.toList none K))
def N9(a b:Int)(c:aF)(d e:af):Option R:=ev zv (c8 R) kk (sub [1,1,1,1,1] (cd Tryz.f85)) ⟨uS 3 ([.ptr 4 cB []]::[.ptr 5 aK []]::[.ptr 6 aK []]::uS 1 ([tI a]::[tI b]::uS 185 [])),nS 4 ((some ⟨cB,c,[]⟩)::(some ⟨aK,d,[]⟩)::(some ⟨aK,e,[]⟩)::nS 188 [])⟩ (aT zv Tryz.f85.results.toList none K)
def Oa(a b:Int)(c:Bool)(d:aF)(e f:af):Option R:=ev zv (c8 R) kk (sub [1,1,1,1,1,0,1] (cd Tryz.f85)) ⟨uS 3 ([.ptr 4 cB []]::[.ptr 5 aK []]::[.ptr 6 aK []]::uS 1 ([tI a]::[tI b]::uS 56 ([tB c]::uS 128 []))),nS 4 ((some ⟨cB,d,[]⟩)::(some ⟨aK,e,[]⟩)::(some ⟨aK,f,[]⟩)::nS 188 [])⟩ (aU zv (c8 R) kk (sub [1,1,1,1,1,1] (cd Tryz.f85)) (aT zv Tryz.f85.results.toList none K))
def Ob(a b:Int)(c:aF)(d e:af):Option R:=ev zv (c8 R) kk (sub [1,1,1,1,1,1] (cd Tryz.f85)) ⟨uS 3 ([.ptr 4 cB []]::[.ptr 5 aK []]::[.ptr 6 aK []]::uS 1 ([tI a]::[tI b]::uS 185 [])),nS 4 ((some ⟨cB,c,[]⟩)::(some ⟨aK,d,[]⟩)::(some ⟨aK,e,[]⟩)::nS 188 [])⟩ (aT zv Tryz.f85.results.toList none K)
def Oc(a b:Int)(c:Bool)(d:aF)(e f:af):Option R:=ev zv (c8 R) kk (sub [1,1,1,1,1,1,0,1] (cd Tryz.f85)) ⟨uS 3 ([.ptr 4 cB []]::[.ptr 5 aK []]::[.ptr 6 aK []]::uS 1 ([tI a]::[tI b]::uS 75 ([tB c]::uS 109 []))),nS 4 ((some ⟨cB,d,[]⟩)::(some ⟨aK,e,[]⟩)::(some ⟨aK,f,[]⟩)::nS 188 [])⟩ (aU zv (c8 R) kk (sub [1,1,1,1,1,1,1] (cd Tryz.f85)) (aT zv Tryz.f85.results.toList none K))
def Od(a b:Int)(c:aF)(d e:af):Option R:=ev zv (c8 R) kk (sub [1,1,1,1,1,1,1] (cd Tryz.f85)) ⟨uS 3 ([.ptr 4 cB []]::[.ptr 5 aK []]::[.ptr 6 aK []]::uS 1 ([tI a]::[tI b]::uS 185 [])),nS 4 ((some ⟨cB,c,[]⟩)::(some ⟨aK,d,[]⟩)::(some ⟨aK,e,[]⟩)::nS 188 [])⟩ (aT zv Tryz.f85.results.toList none K)
def TR:Option R:=ev zv (c8 R) kk (sub [1,1,1,1,1,1,1,1] (cd Tryz.f85)) ⟨uS 194 [],nS 195 []⟩ (aT zv Tryz.f85.results.toList none K)
def Oe(a:Bool):Option R:=ev zv (c8 R) kk (sub [1,1,1,1,1,1,1,0,1,0,1,1,1,1,1,0,1,1,1] (cd Tryz.f85)) ⟨uS 140 ([tB a]::uS 53 []),nS 195 []⟩ (zk 0 (aU zv (c8 R) kk (sub [1,1,1,1,1,1,1,1] (cd Tryz.f85)) (aT zv Tryz.f85.results.toList none K)))
def MY(a b:Int)(c:Bool)(d:aF)(e f:af):Option R:=ev zv (c8 R) kk (sub [1,1,1,1,1,1,1,0,1,0,1,1,1,1,1,1,1,0,0,1,1] (cd Tryz.f85)) ⟨uS 3 ([.ptr 4 cB []]::[.ptr 5 aK []]::[.ptr 6 aK []]::uS 1 ([tI a]::[tI b]::uS 147 ([tB c]::uS 37 []))),nS 4 ((some ⟨cB,d,[]⟩)::(some ⟨aK,e,[]⟩)::(some ⟨aK,f,[]⟩)::nS 188 [])⟩ (aU zv (c8 R) kk (sub [1,1,1,1,1,1,1,0,1,0,1,1,1,1,1,1,1,0,1] (cd Tryz.f85)) (zk 0 (aU zv (c8 R) kk (sub [1,1,1,1,1,1,1,1] (cd Tryz.f85)) (aT zv Tryz.f85.results.toList none K))))
def MZ(a b:Int)(c:aF)(d e:af):Option R:=ev zv (c8 R) kk (sub [1,1,1,1,1,1,1,0,1,0,1,1,1,1,1,1,1,0,1] (cd Tryz.f85)) ⟨uS 3 ([.ptr 4 cB []]::[.ptr 5 aK []]::[.ptr 6 aK []]::uS 1 ([tI a]::[tI b]::uS 185 [])),nS 4 ((some ⟨cB,c,[]⟩)::(some ⟨aK,d,[]⟩)::(some ⟨aK,e,[]⟩)::nS 188 [])⟩ (zk 0 (aU zv (c8 R) kk (sub [1,1,1,1,1,1,1,1] (cd Tryz.f85)) (aT zv Tryz.f85.results.toList none K)))
def M0(a b c:Int)(d:aF)(e f:af):Option R:=ev zv (c8 R) kk (sub [1,1,1,1,1,1,1,0,1,0,1,1,1,1,1,1,1,0,1,1,0,0,1] (cd Tryz.f85)) ⟨uS 3 ([.ptr 4 cB []]::[.ptr 5 aK []]::[.ptr 6 aK []]::uS 1 ([tI a]::[tI b]::uS 4 ([tI c]::uS 180 []))),nS 4 ((some ⟨cB,d,[]⟩)::(some ⟨aK,e,[]⟩)::(some ⟨aK,f,[]⟩)::nS 188 [])⟩ (lr (ev zv (c8 R) kk (sub [1,1,1,1,1,1,1,0,1,0,1,1,1,1,1,1,1,0,1,1,0,0] (cd Tryz.f85))) [3,4,5,7,8,13] [6] k J)
def M1(a b c:Int)(d:aF)(e f:af):Option R:=ev zv (c8 R) kk (sub [1,1,1,1,1,1,1,0,1,0,1,1,1,1,1,1,1,0,1,1,0,0,1,0,0,1] (cd Tryz.f85)) ⟨uS 3 ([.ptr 4 cB []]::[.ptr 5 aK []]::[.ptr 6 aK []]::uS 1 ([tI a]::[tI b]::uS 4 ([tI c]::uS 180 []))),nS 4 ((some ⟨cB,d,[]⟩)::(some ⟨aK,e,[]⟩)::(some ⟨aK,f,[]⟩)::nS 188 [])⟩ (zk 2 (aU zv (c8 R) kk (sub [1,1,1,1,1,1,1,0,1,0,1,1,1,1,1,1,1,0,1,1,0,0,1,1] (cd Tryz.f85)) (lr (ev zv (c8 R) kk (sub [1,1,1,1,1,1,1,0,1,0,1,1,1,1,1,1,1,0,1,1,0,0] (cd Tryz.f85))) [3,4,5,7,8,13] [6] k J)))
def M3(a b c:Int)(d:aF)(e f:af):Option R:=ev zv (c8 R) kk (sub [1,1,1,1,1,1,1,0,1,0,1,1,1,1,1,1,1,0,1,1,0,0,1,1] (cd Tryz.f85)) ⟨uS 3 ([.ptr 4 cB []]::[.ptr 5 aK []]::[.ptr 6 aK []]::uS 1 ([tI a]::[tI b]::uS 4 ([tI c]::uS 180 []))),nS 4 ((some ⟨cB,d,[]⟩)::(some ⟨aK,e,[]⟩)::(some ⟨aK,f,[]⟩)::nS 188 [])⟩ (lr (ev zv (c8 R) kk (sub [1,1,1,1,1,1,1,0,1,0,1,1,1,1,1,1,1,0,1,1,0,0] (cd Tryz.f85))) [3,4,5,7,8,13] [6] k J)
def TS(a b c:Int)(d:aF)(e f:af):Option R:=aB (ev zv (c8 R) kk (sub [1,1,1,1,1,1,1,0,1,0,1,1,1,1,1,1,1,0,1,1,0,0] (cd Tryz.f85))) [3,4,5,7,8,13] [6] k ⟨uS 3 ([.ptr 4 cB []]::[.ptr 5 aK []]::[.ptr 6 aK []]::uS 1 ([tI a]::[tI b]::uS 4 ([tI c]::uS 180 []))),nS 4 ((some ⟨cB,d,[]⟩)::(some ⟨aK,e,[]⟩)::(some ⟨aK,f,[]⟩)::nS 188 [])⟩ J
def zen:State:=⟨uS 194 [],nS 195 []⟩
def S9(a:Int):State:=⟨uS 6 ([tI a]::uS 187 []),nS 195 []⟩
def zww:KX R:=(zk 1 (zk 0 (aU zv (c8 R) kk (sub [1,1,1,1,1,1,1,1] (cd Tryz.f85)) (aT zv Tryz.f85.results.toList none K))))
theorem ah3(a:Bool)(b:aF)(c d:af):N6 R kk K a b c d=
 zx1 a b c d (fun a0=>K [tI a0] none) (fun a0 a1 a2=>cJ kk fun _=>N7 R kk K a0 a1 a2):=by kernel_rfl
theorem ah4(a:aF)(b c:af):N7 R kk K a b c=
 Hd a b c (fun a0 a1 a2 a3 a4 a5=>cJ kk fun _=>N8 R kk K a0 a1 a2 a3 a4 a5):=by kernel_rfl
theorem ah5(a b:Int)(c:Bool)(d:aF)(e f:af):N8 R kk K a b c d e f=
 zx2 a b c d e f (fun a0=>K [tI a0] none) (fun a0 a1 a2 a3 a4=>cJ kk fun _=>N9 R kk K a0 a1 a2 a3 a4):=by kernel_rfl
theorem ah6(a b:Int)(c:aF)(d e:af):N9 R kk K a b c d e=
 He a b c d e (fun a0 a1 a2 a3 a4 a5=>cJ kk fun _=>Oa R kk K a0 a1 a2 a3 a4 a5):=by kernel_rfl
theorem ah7(a b:Int)(c:Bool)(d:aF)(e f:af):Oa R kk K a b c d e f=
 zx3 a b c d e f (fun a0=>K [tI a0] none) (fun a0 a1 a2 a3 a4=>cJ kk fun _=>Ob R kk K a0 a1 a2 a3 a4):=by kernel_rfl
theorem ah8(a b:Int)(c:aF)(d e:af):Ob R kk K a b c d e=
 Hf a b c d e (fun a0 a1 a2 a3 a4 a5=>cJ kk fun _=>Oc R kk K a0 a1 a2 a3 a4 a5):=by kernel_rfl
theorem ah9(a b:Int)(c:Bool)(d:aF)(e f:af):Oc R kk K a b c d e f=
 zx4 a b c d e f (fun a0=>K [tI a0] none) (fun a0 a1 a2 a3 a4=>cJ kk fun _=>Od R kk K a0 a1 a2 a3 a4):=by kernel_rfl
theorem aia(a b:Int)(c:aF)(d e:af):Od R kk K a b c d e=
 Hg a b c d e (fun a0=>K [tI a0] none) (cJ kk fun _=>TR R kk K) (fun a0=>cJ kk fun _=>Oe R kk K a0) (fun a0 a1 a2 a3 a4 a5=>cJ kk fun _=>MY R kk K a0 a1 a2 a3 a4 a5):=by kernel_rfl
theorem aib:TR R kk K=
 zx5 (fun a0=>K [tI a0] none):=by kernel_rfl
theorem aic(a:Bool):Oe R kk K a=
 zpg a (fun a0=>K [tI a0] none) (cJ kk fun _=>TR R kk K):=by kernel_rfl
theorem aeq(a b:Int)(c:Bool)(d:aF)(e f:af):MY R kk K a b c d e f=
 zph a b c d e f (fun a0=>K [tI a0] none) (fun a0 a1 a2 a3 a4=>cJ kk fun _=>MZ R kk K a0 a1 a2 a3 a4):=by kernel_rfl
theorem aer(a b:Int)(c:aF)(d e:af):MZ R kk K a b c d e=
 Tt a b c d e (TS R kk kk (zww R kk K)):=by kernel_rfl
theorem aln(a b c:Int)(d:aF)(e f:af):TS R kk (k+1) J a b c d e f=
 Qd a b c d e f (fun a0 a1 a2 a3 a4 a5=>cJ kk fun _=>M0 R kk k J a0 a1 a2 a3 a4 a5) (J (.exit 1) (zen)):=by kernel_rfl
theorem aes(a b c:Int)(d:aF)(e f:af):M0 R kk k J a b c d e f=
 Tu a b c d e f (fun a0=>J .ret (S9 a0)) (fun a0 a1 a2 a3 a4 a5=>cJ kk fun _=>M1 R kk k J a0 a1 a2 a3 a4 a5):=by kernel_rfl
theorem aev:zww R kk K (.exit 1) (zen)=
 zpi (cJ kk fun _=>TR R kk K):=by kernel_rfl
theorem aew(a:Int):zww R kk K .ret (S9 a)=
 zpj a (fun a0=>K [tI a0] none):=by kernel_rfl
theorem aet(a b c:Int)(d:aF)(e f:af):M1 R kk k J a b c d e f=
 Tv a b c d e f (fun a0=>J .ret (S9 a0)) (fun a0 a1 a2 a3 a4 a5=>cJ kk fun _=>M3 R kk k J a0 a1 a2 a3 a4 a5):=by kernel_rfl
theorem aeu(a b c:Int)(d:aF)(e f:af):M3 R kk k J a b c d e f=
 Tw a b c d e f (TS R kk k J):=by kernel_rfl
theorem aid{kk:Nat}(hF:kk=ag)(t7 t8 t13:Int)(dH:aF)(cQ eb:af):TS R kk k J t7 t8 t13 dH cQ eb=(vM k t7 t8 t13 dH cQ eb).bind fun e=>(Sum.elim (fun(we:Unit)=>J (.exit 1) (zen)) (fun(we:Int)=>J .ret (S9 we)) e):=by
 induction k generalizing t7 t8 t13 dH cQ eb with
 |zero=>rfl
 |succ k ih=>
  rw[aln]
  simp only[vM,Qd,Tu,Tv,Tw,ih,aes,aet,aeu,PD (hF:=hF),aD]
def Jk:ah:=c8.add 85 [cB,aK,aK] (kE cB aK aK sQ (fun _ r K=>K [tI r] none))
theorem o32:aP Tryz.prog Jk:=kU zv Tryz.f85 (fun R kk x0 x1 x2 K=>Hc x0 x1 x2 (fun a0 a1 a2 a3=>cJ kk fun _=>N6 R kk K a0 a1 a2 a3)) o31 ((ek _ _ _ _).join _) Tryz.func85 (by kernel_rfl) rfl (fun _ _ _ _ _ _ h=>h _ _) (fun _ _ _ _ _ _=>by kernel_rfl) fun R kk e x0 x1 x2 K=>by
 simp only[sQ,ab2,zx1,z152,zx2,ab3,zx3,z154,zx4,ab4,zx5,zpg,zph,Tt,zpi,zpj,aid (hF:=e),zwx,TT,Bw,Qq,zwy,FA,zwz,Qr,TU,zx0,zpf,Qc,ah3,ah4,aeq,aer,ah5,ah6,ah7,ah8,ah9,aia,aib,aic,aev,aew,PD (hF:=e),aD,<-e]
def anA:Env:=e0 [cB,cB]
def lT:ah:=Jk.add 86 [cB,cB] (dt cB cB sT (fun _ r K=>K [tB r] none))
theorem o33:aP Tryz.prog lT:=dv anA Tryz.f86 (fun R kk x0 x1 K=>Uc x0 x1 (fun a0=>K [tB a0] none)) o32 (ek _ _ _ _) Tryz.func86 (by kernel_rfl) rfl (fun _ _ _ _ _ _ h=>h _ _) (fun _ _ _ _ _=>by kernel_rfl) fun R kk e x0 x1 K=>by
 simp only[sT,Uc,aD]
def vO:Env:=b9.env (fun i=>bif Nat.beq i 8 then [3,4,5,9] else bif Nat.beq i 19 then [3,4,5,13] else bif Nat.beq i 25 then [3,4,5,13,15] else []) (fun i=>bif Nat.beq i 8 then [3,4,5,6,7,8] else bif Nat.beq i 19 then [6,7,8] else bif Nat.beq i 25 then [3,4,5,6,7,8,13] else []) [] [cD,aK,aK]
def TY(a:Int)(b:ax)(c d:af):Option R:=aB (ev vO (lT R) kk (sub [1,1,1,1,0,1,0,0] (cd Tryz.f61))) [3,4,5,9] [3,4,5,6,7,8] k ⟨uS 3 ([.ptr 4 cD []]::[.ptr 5 aK []]::[.ptr 6 aK []]::uS 3 ([tI a]::uS 104 [])),nS 4 ((some ⟨cD,b,[]⟩)::(some ⟨aK,c,[]⟩)::(some ⟨aK,d,[]⟩)::nS 108 [])⟩ J
def zeq(a b c:Int)(d:ax)(e f:af):State:=⟨uS 3 ([.ptr 4 cD []]::[.ptr 5 aK []]::[.ptr 6 aK []]::[tI a]::[tI b]::[tI c]::uS 105 []),nS 4 ((some ⟨cD,d,[]⟩)::(some ⟨aK,e,[]⟩)::(some ⟨aK,f,[]⟩)::nS 108 [])⟩
def zer(a:ax)(b c:af):State:=⟨uS 3 ([.ptr 4 cD []]::[.ptr 5 aK []]::[.ptr 6 aK []]::uS 108 []),nS 4 ((some ⟨cD,a,[]⟩)::(some ⟨aK,b,[]⟩)::(some ⟨aK,c,[]⟩)::nS 108 [])⟩
def zx9:KX R:=(zk 0 (aU vO (lT R) kk (sub [1,1,1,1,1] (cd Tryz.f61)) (aT vO Tryz.f61.results.toList none K)))
def TZ(a:Int)(b:ax)(c d:af):Option R:=aB (ev vO (lT R) kk (sub [1,1,1,1,1,1,0,1,0,0] (cd Tryz.f61))) [3,4,5,13] [6,7,8] k ⟨uS 3 ([.ptr 4 cD []]::[.ptr 5 aK []]::[.ptr 6 aK []]::uS 7 ([tI a]::uS 100 [])),nS 4 ((some ⟨cD,b,[]⟩)::(some ⟨aK,c,[]⟩)::(some ⟨aK,d,[]⟩)::nS 108 [])⟩ J
def Ta(a b c:Int):State:=⟨uS 6 ([tI a]::[tI b]::[tI c]::uS 105 []),nS 115 []⟩
def zes:State:=⟨uS 114 [],nS 115 []⟩
def zxa:KX R:=(zk 2 (aU vO (lT R) kk (sub [1,1,1,1,1,1,1] (cd Tryz.f61)) (aT vO Tryz.f61.results.toList none K)))
def T1(a b:Int)(c:ax)(d e:af):Option R:=aB (ev vO (lT R) kk (sub [1,1,1,1,1,1,0,1,0,0,1,0,0,1,1,0,0] (cd Tryz.f61))) [3,4,5,13,15] [3,4,5,6,7,8,13] k ⟨uS 3 ([.ptr 4 cD []]::[.ptr 5 aK []]::[.ptr 6 aK []]::uS 7 ([tI a]::uS 1 ([tI b]::uS 98 []))),nS 4 ((some ⟨cD,c,[]⟩)::(some ⟨aK,d,[]⟩)::(some ⟨aK,e,[]⟩)::nS 108 [])⟩ J
def zet(a b c d:Int)(e:ax)(f g:af):State:=⟨uS 3 ([.ptr 4 cD []]::[.ptr 5 aK []]::[.ptr 6 aK []]::[tI a]::[tI b]::[tI c]::uS 4 ([tI d]::uS 100 [])),nS 4 ((some ⟨cD,e,[]⟩)::(some ⟨aK,f,[]⟩)::(some ⟨aK,g,[]⟩)::nS 108 [])⟩
def zeu(a:Int)(b:ax)(c d:af):State:=⟨uS 3 ([.ptr 4 cD []]::[.ptr 5 aK []]::[.ptr 6 aK []]::uS 7 ([tI a]::uS 100 [])),nS 4 ((some ⟨cD,b,[]⟩)::(some ⟨aK,c,[]⟩)::(some ⟨aK,d,[]⟩)::nS 108 [])⟩
def zxb:KX R:=(zk 4 (zk 3 (aU vO (lT R) kk (sub [1,1,1,1,1,1,0,1,0,0,1,1] (cd Tryz.f61)) (lr (ev vO (lT R) kk (sub [1,1,1,1,1,1,0,1,0,0] (cd Tryz.f61))) [3,4,5,13] [6,7,8] k J))))
theorem alp(a:Int)(b:ax)(c d:af):TY R kk (k+1) J a b c d=
 Qt a b c d (fun a0 a1 a2 a3 a4 a5=>J .ret (zeq a0 a1 a2 a3 a4 a5)) (TY R kk k J) (fun a0 a1 a2=>J (.exit 0) (zer a0 a1 a2)):=by kernel_rfl
theorem aez(a b c:Int)(d:ax)(e f:af):zx9 R kk K .ret (zeq a b c d e f)=
 zxc a b c d e f (fun a0 a1 a2=>K [tI a0,tI a1,tI a2] none):=by kernel_rfl
theorem aeA(a:ax)(b c:af):zx9 R kk K (.exit 0) (zer a b c)=
 T4 a b c (fun a0 a1 a2=>K [tI a0,tI a1,tI a2] none) (TZ R kk kk (zxa R kk K)):=by kernel_rfl
theorem alq(a:Int)(b:ax)(c d:af):TZ R kk (k+1) J a b c d=
 Qu a b c d (fun a0 a1 a2=>J .ret (Ta a0 a1 a2)) (T1 R kk kk (zxb R kk k J)) (J (.exit 2) (zes)):=by kernel_rfl
theorem aeB(a b c:Int):zxa R kk K .ret (Ta a b c)=
 zxd a b c (fun a0 a1 a2=>K [tI a0,tI a1,tI a2] none):=by kernel_rfl
theorem aeC:zxa R kk K (.exit 2) (zes)=
 zxe (fun a0 a1 a2=>K [tI a0,tI a1,tI a2] none):=by kernel_rfl
theorem alr(a b:Int)(c:ax)(d e:af):T1 R kk (k+1) J a b c d e=
 Qv a b c d e (fun a0 a1 a2 a3 a4 a5 a6=>J .ret (zet a0 a1 a2 a3 a4 a5 a6)) (T1 R kk k J) (fun a0 a1 a2 a3=>J (.exit 4) (zeu a0 a1 a2 a3)):=by kernel_rfl
theorem aeD(a b c d:Int)(e:ax)(f g:af):zxb R kk k J .ret (zet a b c d e f g)=
 zxf a b c d e f g (fun a0 a1 a2=>J .ret (Ta a0 a1 a2)):=by kernel_rfl
theorem aeE(a:Int)(b:ax)(c d:af):zxb R kk k J (.exit 4) (zeu a b c d)=
 T5 a b c d (TZ R kk k J):=by kernel_rfl
theorem aif{kk:Nat}(hF:kk=ag)(t9:Int)(dH:ax)(cQ eb:af):TY R kk k J t9 dH cQ eb=(FB k t9 dH cQ eb).bind fun e=>(Sum.elim (fun(we:lX)=>J .ret (zeq we.1 we.2.1 we.2.2.1 we.2.2.2.1 we.2.2.2.2.1 we.2.2.2.2.2)) (fun(we:lW)=>J (.exit 0) (zer we.1 we.2.1 we.2.2)) e):=by
 induction k generalizing t9 dH cQ eb with
 |zero=>rfl
 |succ k ih=>
  rw[alp]
  simp only[FB,Qt,ih,aD]
theorem aii{kk:Nat}(hF:kk=ag)(t13 t15:Int)(dH:ax)(cQ eb:af):T1 R kk k J t13 t15 dH cQ eb=(FD k t13 t15 dH cQ eb).bind fun e=>(Sum.elim (fun(we:(Int×Int×Int×Int×ax×af×af))=>J .ret (zet we.1 we.2.1 we.2.2.1 we.2.2.2.1 we.2.2.2.2.1 we.2.2.2.2.2.1 we.2.2.2.2.2.2)) (fun(we:(Int×ax×af×af))=>J (.exit 4) (zeu we.1 we.2.1 we.2.2.1 we.2.2.2)) e):=by
 induction k generalizing t13 t15 dH cQ eb with
 |zero=>rfl
 |succ k ih=>
  rw[alr]
  simp only[FD,Qv,ih,aD]
theorem aih{kk:Nat}(hF:kk=ag)(t13:Int)(dH:ax)(cQ eb:af):TZ R kk k J t13 dH cQ eb=(FC k t13 dH cQ eb).bind fun e=>(Sum.elim (fun(we:jw)=>J .ret (Ta we.1 we.2.1 we.2.2)) (fun(we:Unit)=>J (.exit 2) (zes)) e):=by
 induction k generalizing t13 dH cQ eb with
 |zero=>rfl
 |succ k ih=>
  rw[alq]
  simp only[FC,Qu,zxf,T5,ih,aii (hF:=hF),aeD,aeE,aD,<-hF]
def wI:ah:=lT.add 61 [cD,aK,aK] (kE cD aK aK sR (fun _ r K=>K [tI r.1,tI r.2.1,tI r.2.2] none))
theorem o34:aP Tryz.prog wI:=kU vO Tryz.f61 (fun R kk x0 x1 x2 K=>T3 x0 x1 x2 (fun a0 a1 a2=>K [tI a0,tI a1,tI a2] none) (TY R kk kk (zx9 R kk K))) o33 (ek _ _ _ _) Tryz.func61 (by kernel_rfl) rfl (fun _ _ _ _ _ _ h=>h _ _) (fun _ _ _ _ _ _=>by kernel_rfl) fun R kk e x0 x1 x2 K=>by
 simp only[sR,T3,zxc,T4,zxd,zxe,aif (hF:=e),aih (hF:=e),aez,aeA,aeB,aeC,aD,<-e]
def WY:Env:=b9.env (fun i=>bif Nat.beq i 4 then [1,5] else []) (fun i=>bif Nat.beq i 4 then [2,3,4] else []) [] [bU]
def Uo(a:Int)(b:aA):Option R:=aB (ev WY (wI R) kk (sub [1,1,0,1,0,0] (cd Tryz.f41))) [1,5] [2,3,4] k ⟨uS 1 ([.ptr 2 bU []]::uS 3 ([tI a]::uS 56 [])),nS 2 ((some ⟨bU,b,[]⟩)::nS 60 [])⟩ J
def zf8(a b c:Int):State:=⟨uS 2 ([tI a]::[tI b]::[tI c]::uS 57 []),nS 63 []⟩
def zf9:State:=⟨uS 62 [],nS 63 []⟩
def zy0:KX R:=(zk 0 (aU WY (wI R) kk (sub [1,1,1] (cd Tryz.f41)) (aT WY Tryz.f41.results.toList none K)))
theorem alA(a:Int)(b:aA):Uo R kk (k+1) J a b=
 Hh a b (fun a0 a1 a2=>J .ret (zf8 a0 a1 a2)) (Uo R kk k J) (J (.exit 0) (zf9)):=by kernel_rfl
theorem aeS(a b c:Int):zy0 R kk K .ret (zf8 a b c)=
 zy1 a b c (fun a0 a1 a2=>K [tI a0,tI a1,tI a2] none):=by kernel_rfl
theorem aeT:zy0 R kk K (.exit 0) (zf9)=
 zy2 (fun a0 a1 a2=>K [tI a0,tI a1,tI a2] none):=by kernel_rfl
theorem aiq{kk:Nat}(hF:kk=ag)(t5:Int)(c9:aA):Uo R kk k J t5 c9=(FH k t5 c9).bind fun e=>(Sum.elim (fun(we:jw)=>J .ret (zf8 we.1 we.2.1 we.2.2)) (fun(we:Unit)=>J (.exit 0) (zf9)) e):=by
 induction k generalizing t5 c9 with
 |zero=>rfl
 |succ k ih=>
  rw[alA]
  simp only[FH,Hh,ih,aD]
def Jl:ah:=wI.add 41 [bU] (cO bU sW (fun _ r K=>K [tI r.1,tI r.2.1,tI r.2.2] none))
theorem o35:aP Tryz.prog Jl:=cP WY Tryz.f41 (fun R kk x0 K=>Up x0 (fun a0 a1 a2=>K [tI a0,tI a1,tI a2] none) (Uo R kk kk (zy0 R kk K))) o34 (ek _ _ _ _) Tryz.func41 (by kernel_rfl) rfl (fun _ _ _ _ _ _ h=>h _ _) (fun _ _ _ _=>by kernel_rfl) fun R kk e x0 K=>by
 simp only[sW,Up,zy1,zy2,aiq (hF:=e),aeS,aeT,aD,<-e]
def anF:Env:=e0 [bU]
def Jm:ah:=Jl.add 14 [bU] (cO bU sY (fun _ r K=>K [tB r] none))
theorem o36:aP Tryz.prog Jm:=cP anF Tryz.f14 (fun R kk x0 K=>Ut x0 (fun a0=>K [tB a0] none)) o35 (ek _ _ _ _) Tryz.func14 (by kernel_rfl) rfl (fun _ _ _ _ _ _ h=>h _ _) (fun _ _ _ _=>by kernel_rfl) fun R kk e x0 K=>by
 simp only[sY,Ut,aD]
def anx:Env:=e0 [(.sl 109 (.pair .str (.pair .str .unit)))]
def Jn:ah:=Jm.add 57 [(.sl 109 (.pair .str (.pair .str .unit)))] (cO (.sl 109 (.pair .str (.pair .str .unit))) qP (fun _ r K=>K [.aj (.sl 109 (.pair .str (.pair .str .unit))) r [[]]] none))
theorem o37:aP Tryz.prog Jn:=cP anx Tryz.f57 (fun R kk x0 K=>TM x0 (fun a0=>K [.aj (.sl 109 (.pair .str (.pair .str .unit))) a0 [[]]] none)) o36 (ek _ _ _ _) Tryz.func57 (by kernel_rfl) rfl (fun _ _ _ _ _ _ h=>h _ _) (fun _ _ _ _=>by kernel_rfl) fun R kk e x0 K=>by
 simp only[qP,TM,aD]
def anz:Env:=b9.env (fun _=>[]) (fun _=>[]) [2] [cB]
def wJ:ah:=Jn.add 58 [cB] (cO cB nW (fun _ r K=>K [.aj cB r [[4]]] none))
theorem o38:aP Tryz.prog wJ:=cP anz Tryz.f58 (fun R kk x0 K=>TV x0 (fun a0=>K [.aj cB a0 [[4]]] none)) o37 (ek _ _ _ _) Tryz.func58 (by kernel_rfl) rfl (fun _ _ _ _ _ _ h=>h _ _) (fun _ _ _ _=>by kernel_rfl) fun R kk e x0 K=>by
 simp only[nW,TV,aD]
def WU:Env:=b9.env (fun i=>bif Nat.beq i 3 then [1,2,3,4] else []) (fun i=>bif Nat.beq i 3 then [2,3] else []) [2] [cD]
def T6(a:Int)(b c d:ax):Option R:=aB (ev WU (wJ R) kk (sub [1,1,0,1,0,0] (cd Tryz.f39))) [1,2,3,4] [2,3] k ⟨uS 1 ([.ptr 2 cD []]::[.ptr 3 cD []]::[.ptr 4 cD []]::[tI a]::uS 23 []),nS 2 ((some ⟨cD,b,[]⟩)::(some ⟨cD,c,[[0],[1]]⟩)::(some ⟨cD,d,[[0],[1]]⟩)::nS 24 [])⟩ J
def zev(a b:ax):State:=⟨uS 2 ([.ptr 3 cD []]::[.ptr 4 cD []]::uS 24 []),nS 3 ((some ⟨cD,a,[[0],[1]]⟩)::(some ⟨cD,b,[[0],[1]]⟩)::nS 24 [])⟩
def Og:KX R:=(zk 0 (aU WU (wJ R) kk (sub [1,1,1] (cd Tryz.f39)) (aT WU Tryz.f39.results.toList none K)))
theorem als(a:Int)(b c d:ax):T6 R kk (k+1) J a b c d=
 zxg a b c d (T6 R kk k J) (fun a0 a1=>J (.exit 0) (zev a0 a1)):=by kernel_rfl
theorem aeF(a b:ax):Og R kk K (.exit 0) (zev a b)=
 zxh a b (fun a0=>K [.aj cD a0 [[0],[1]]] none):=by kernel_rfl
theorem aij{kk:Nat}(hF:kk=ag)(t4:Int)(c9 dG dH:ax):T6 R kk k J t4 c9 dG dH=(Qw k t4 c9 dG dH).bind fun e=>J (.exit 0) (zev e.1 e.2):=by
 induction k generalizing t4 c9 dG dH with
 |zero=>rfl
 |succ k ih=>
  rw[als]
  simp only[Qw,zxg,ih,aD]
def Jo:ah:=wJ.add 39 [cD] (cO cD sS (fun _ r K=>K [.aj cD r [[0],[1]]] none))
theorem o39:aP Tryz.prog Jo:=cP WU Tryz.f39 (fun R kk x0 K=>T7 x0 (T6 R kk kk (Og R kk K))) o38 (ek _ _ _ _) Tryz.func39 (by kernel_rfl) rfl (fun _ _ _ _ _ _ h=>h _ _) (fun _ _ _ _=>by kernel_rfl) fun R kk e x0 K=>by
 simp only[sS,T7,zxh,aij (hF:=e),aeF,aD,<-e]
def I4:Env:=b9.env (fun _=>[]) (fun _=>[]) [2] [aK]
def Jp:ah:=Jo.add 59 [aK] (cO aK I3 (fun _ r K=>K [.aj aK r [[2]]] none))
theorem o40:aP Tryz.prog Jp:=cP I4 Tryz.f59 (fun R kk x0 K=>YH x0 (fun a0=>K [.aj aK a0 [[2]]] none)) o39 (ek _ _ _ _) Tryz.func59 (by kernel_rfl) rfl (fun _ _ _ _ _ _ h=>h _ _) (fun _ _ _ _=>by kernel_rfl) fun R kk e x0 K=>by
 simp only[I3,YH,aD]
def anC:Env:=b9.env (fun _=>[]) (fun _=>[]) [2] [cz]
def wK:ah:=Jp.add 40 [cz] (cO cz sV (fun _ r K=>K [.aj cz r [[3],[2],[0,2]]] none))
theorem o41:aP Tryz.prog wK:=cP anC Tryz.f40 (fun R kk x0 K=>Uj x0 (fun a0=>K [.aj cz a0 [[3],[2],[0,2]]] none)) o40 (ek _ _ _ _) Tryz.func40 (by kernel_rfl) rfl (fun _ _ _ _ _ _ h=>h _ _) (fun _ _ _ _=>by kernel_rfl) fun R kk e x0 K=>by
 simp only[sV,Uj,aD]
def WZ:Env:={b9.env (fun i=>bif Nat.beq i 2 then [1,2,3] else []) (fun i=>bif Nat.beq i 2 then [1,2] else []) [2] [bU] with sh:=[20]}
def Uq(a:Int)(b c:aA):Option R:=aB (ev WZ (wK R) kk (sub [1,0,1,0,0] (cd Tryz.f13))) [1,2,3] [1,2] k ⟨uS 1 ([.ptr 2 bU []]::[.ptr 3 bU []]::[tI a]::uS 25 []),nS 2 ((some ⟨bU,b,[]⟩)::(some ⟨bU,c,[]⟩)::nS 26 [])⟩ J
def zfa(a b:aA):State:=⟨uS 1 ([.ptr 2 bU []]::[.ptr 3 bU []]::uS 26 []),nS 2 ((some ⟨bU,a,[]⟩)::(some ⟨bU,b,[]⟩)::nS 26 [])⟩
def Oh:KX R:=(zk 0 (aU WZ (wK R) kk (sub [1,1] (cd Tryz.f13)) (aT WZ Tryz.f13.results.toList none K)))
theorem alB(a:Int)(b c:aA):Uq R kk (k+1) J a b c=
 Hi a b c (Uq R kk k J) (fun a0 a1=>J (.exit 0) (zfa a0 a1)):=by kernel_rfl
theorem aeU(a b:aA):Oh R kk K (.exit 0) (zfa a b)=
 zy3 a b (fun a0=>K [.aj bU a0 []] none):=by kernel_rfl
theorem air{kk:Nat}(hF:kk=ag)(t3:Int)(c9 dG:aA):Uq R kk k J t3 c9 dG=(FI k t3 c9 dG).bind fun e=>J (.exit 0) (zfa e.1 e.2):=by
 induction k generalizing t3 c9 dG with
 |zero=>rfl
 |succ k ih=>
  rw[alB]
  simp only[FI,Hi,ih,aD]
def Jq:ah:=wK.add 13 [bU] (cO bU sX (fun _ r K=>K [.aj bU r []] none))
theorem o42:aP Tryz.prog Jq:=cP WZ Tryz.f13 (fun R kk x0 K=>Ur x0 (Uq R kk kk (Oh R kk K))) o41 ((ek _ _ _ _).sh _) Tryz.func13 (by kernel_rfl) rfl (fun _ _ _ _ _ _ h=>h _ _) (fun _ _ _ _=>by kernel_rfl) fun R kk e x0 K=>by
 simp only[sX,Ur,zy3,air (hF:=e),aeU,aD,<-e]
def H5:Env:=e0 [(.int .i64)]
def Jr:ah:=Jq.add 200 [(.int .i64)] (cO (.int .i64) yw (fun _ r K=>K [tI r] none))
theorem o43:aP Tryz.prog Jr:=cP H5 Tryz.f200 (fun R kk x0 K=>Xp x0 (fun a0=>K [tI a0] none)) o42 (ek _ _ _ _) Tryz.func200 (by kernel_rfl) rfl (fun _ _ _ _ _ _ h=>h _ _) (fun _ _ _ _=>by kernel_rfl) fun R kk e x0 K=>by
 simp only[yw,Xp,aD]
def H0:Env:=e0 [(.int .i64)]
def Js:ah:=Jr.add 148 [(.int .i64)] (cO (.int .i64) BS (fun _ r K=>K [tB r] none))
theorem o44:aP Tryz.prog Js:=cP H0 Tryz.f148 (fun R kk x0 K=>Xg x0 (fun a0=>K [tB a0] none)) o43 (ek _ _ _ _) Tryz.func148 (by kernel_rfl) rfl (fun _ _ _ _ _ _ h=>h _ _) (fun _ _ _ _=>by kernel_rfl) fun R kk e x0 K=>by
 simp only[BS,Xg,aD]
def anV:Env:=e0 [(.int .i64)]
def wL:ah:=Js.add 201 [(.int .i64)] (cO (.int .i64) jU (fun _ r K=>K [tI r] none))
theorem o45:aP Tryz.prog wL:=cP anV Tryz.f201 (fun R kk x0 K=>QP x0 (fun a0=>K [tI a0] none)) o44 (ek _ _ _ _) Tryz.func201 (by kernel_rfl) rfl (fun _ _ _ _ _ _ h=>h _ _) (fun _ _ _ _=>by kernel_rfl) fun R kk e x0 K=>by
 simp only[jU,QP,aD]
def Xi:Env:=b9.env (fun i=>bif Nat.beq i 3 then [3,5,6] else []) (fun i=>bif Nat.beq i 3 then [3] else []) [] [(.int .i64)]
def U8(a b c:Int):Option R:=aB (ev Xi (wL R) kk (sub [1,1,0,1,0,0] (cd Tryz.f149))) [3,5,6] [3] k ⟨uS 3 ([tI a]::uS 1 ([tI b]::[tI c]::uS 6 [])),nS 14 []⟩ J
def zfx(a:Int):State:=⟨uS 3 ([tI a]::uS 9 []),nS 14 []⟩
def Ot:KX R:=(zk 0 (aU Xi (wL R) kk (sub [1,1,1] (cd Tryz.f149)) (aT Xi Tryz.f149.results.toList none K)))
theorem alR(a b c:Int):U8 R kk (k+1) J a b c=
 zz3 a b c (U8 R kk k J) (fun a0=>J (.exit 0) (zfx a0)):=by kernel_rfl
theorem aff(a:Int):Ot R kk K (.exit 0) (zfx a)=
 zz4 a (fun a0=>K [tI a0] none):=by kernel_rfl
theorem aiI{kk:Nat}(hF:kk=ag)(t3 t5 t6:Int):U8 R kk k J t3 t5 t6=(U9 k t3 t5 t6).bind fun e=>J (.exit 0) (zfx e):=by
 induction k generalizing t3 t5 t6 with
 |zero=>rfl
 |succ k ih=>
  rw[alR]
  simp only[U9,zz3,ih,aD]
def Jt:ah:=wL.add 149 [(.int .i64)] (cO (.int .i64) qV (fun _ r K=>K [tI r] none))
theorem o46:aP Tryz.prog Jt:=cP Xi Tryz.f149 (fun R kk x0 K=>zz2 x0 (U8 R kk kk (Ot R kk K))) o45 (ek _ _ _ _) Tryz.func149 (by kernel_rfl) rfl (fun _ _ _ _ _ _ h=>h _ _) (fun _ _ _ _=>by kernel_rfl) fun R kk e x0 K=>by
 simp only[qV,zz2,zz4,aiI (hF:=e),aff,aD,<-e]
def an8:Env:=e0 [cL]
def wM:ah:=Jt.add 96 [cL] (cO cL lQ (fun _ r K=>K [tI r] none))
theorem o47:aP Tryz.prog wM:=cP an8 Tryz.f96 (fun R kk x0 K=>VN x0 (fun a0=>K [tI a0] none)) o46 (ek _ _ _ _) Tryz.func96 (by kernel_rfl) rfl (fun _ _ _ _ _ _ h=>h _ _) (fun _ _ _ _=>by kernel_rfl) fun R kk e x0 K=>by
 simp only[lQ,VN,aD]
def Xn:Env:=b9.env (fun i=>bif Nat.beq i 6 then [1,26,27,28] else []) (fun i=>bif Nat.beq i 6 then [2,3] else []) [] [aK]
def VA(a:gS)(b c:Int)(d:af):Option R:=aB (ev Xn (wM R) kk (sub [1,1,0,1,0,0] (cd Tryz.f68))) [1,26,27,28] [2,3] k ⟨uS 1 ([.ptr 2 aK []]::uS 24 ([.aj (.sl 127 cL) a []]::[tI b]::[tI c]::uS 26 [])),nS 2 ((some ⟨aK,d,[]⟩)::nS 53 [])⟩ J
def zgb(a b:Int):State:=⟨uS 2 ([tI a]::[tI b]::uS 51 []),nS 56 []⟩
def zgc:State:=⟨uS 55 [],nS 56 []⟩
def zzn:KX R:=(zk 1 (aU Xn (wM R) kk (sub [1,1,1] (cd Tryz.f68)) (aT Xn Tryz.f68.results.toList none K)))
theorem alZ(a:gS)(b c:Int)(d:af):VA R kk (k+1) J a b c d=
 QV a b c d (fun a0 a1=>J .ret (zgb a0 a1)) (VA R kk k J) (J (.exit 1) (zgc)):=by kernel_rfl
theorem afu(a b:Int):zzn R kk K .ret (zgb a b)=
 VB a b (fun a0 a1=>K [tI a0,tI a1] none):=by kernel_rfl
theorem afv:zzn R kk K (.exit 1) (zgc)=
 VC (fun a0 a1=>K [tI a0,tI a1] none):=by kernel_rfl
theorem aiQ{kk:Nat}(hF:kk=ag)(t26:gS)(t27 t28:Int)(c9:af):VA R kk k J t26 t27 t28 c9=(BB k t26 t27 t28 c9).bind fun e=>(Sum.elim (fun(we:(Int×Int))=>J .ret (zgb we.1 we.2)) (fun(we:Unit)=>J (.exit 1) (zgc)) e):=by
 induction k generalizing t26 t27 t28 c9 with
 |zero=>rfl
 |succ k ih=>
  rw[alZ]
  simp only[BB,QV,ih,aD]
def wN:ah:=wM.add 68 [aK] (cO aK mL (fun _ r K=>K [tI r.1,tI r.2] none))
theorem o48:aP Tryz.prog wN:=cP Xn Tryz.f68 (fun R kk x0 K=>Ho x0 (fun a0 a1=>K [tI a0,tI a1] none) (fun a0 a1 a2 a3=>VA R kk kk (zzn R kk K) a0 a1 a2 a3)) o47 (ek _ _ _ _) Tryz.func68 (by kernel_rfl) rfl (fun _ _ _ _ _ _ h=>h _ _) (fun _ _ _ _=>by kernel_rfl) fun R kk e x0 K=>by
 simp only[mL,ab5,VB,VC,aiQ (hF:=e),afu,afv,aD,<-e]
def Xo:Env:=b9.env (fun i=>bif Nat.beq i 2 then [1,4,9,10,11] else []) (fun i=>bif Nat.beq i 2 then [4,5] else []) [4] [aK,(.int .i64)]
def VD(a:Int)(b:gS)(c d:Int)(e:aS):Option R:=aB (ev Xo (wN R) kk (sub [1,0,1,0,0] (cd Tryz.f69))) [1,4,9,10,11] [4,5] k ⟨uS 1 ([tI a]::uS 2 ([.ptr 5 cL []]::uS 4 ([.aj (.sl 127 cL) b []]::[tI c]::[tI d]::uS 10 []))),nS 5 ((some ⟨cL,e,[]⟩)::nS 17 [])⟩ J
def zgd(a:Bool)(b:aS):State:=⟨uS 4 ([.ptr 5 cL []]::[tB a]::uS 16 []),nS 5 ((some ⟨cL,b,[]⟩)::nS 17 [])⟩
def zge(a:aS):State:=⟨uS 4 ([.ptr 5 cL []]::uS 17 []),nS 5 ((some ⟨cL,a,[]⟩)::nS 17 [])⟩
def zzo:KX R:=(zk 0 (aU Xo (wN R) kk (sub [1,1] (cd Tryz.f69)) (aT Xo Tryz.f69.results.toList none K)))
theorem al0(a:Int)(b:gS)(c d:Int)(e:aS):VD R kk (k+1) J a b c d e=
 zzp a b c d e (fun a0 a1=>J .ret (zgd a0 a1)) (VD R kk k J) (fun a0=>J (.exit 0) (zge a0)):=by kernel_rfl
theorem afw(a:Bool)(b:aS):zzo R kk K .ret (zgd a b)=
 zzq a b (fun a0 a1=>K [.aj cL a0 [],tB a1] none):=by kernel_rfl
theorem afx(a:aS):zzo R kk K (.exit 0) (zge a)=
 zzr a (fun a0 a1=>K [.aj cL a0 [],tB a1] none):=by kernel_rfl
theorem aiR{kk:Nat}(hF:kk=ag)(fx:Int)(t9:gS)(t10 t11:Int)(cQ:aS):VD R kk k J fx t9 t10 t11 cQ=(QW k fx t9 t10 t11 cQ).bind fun e=>(Sum.elim (fun(we:(Bool×aS))=>J .ret (zgd we.1 we.2)) (fun(we:aS)=>J (.exit 0) (zge we)) e):=by
 induction k generalizing fx t9 t10 t11 cQ with
 |zero=>rfl
 |succ k ih=>
  rw[al0]
  simp only[QW,zzp,ih,aD]
def wO:ah:=wN.add 69 [aK,(.int .i64)] (dt aK (.int .i64) fS (fun _ r K=>K [.aj cL r.1 [],tB r.2] none))
theorem o49:aP Tryz.prog wO:=dv Xo Tryz.f69 (fun R kk x0 x1 K=>VE x0 x1 (VD R kk kk (zzo R kk K))) o48 (ek _ _ _ _) Tryz.func69 (by kernel_rfl) rfl (fun _ _ _ _ _ _ h=>h _ _) (fun _ _ _ _ _=>by kernel_rfl) fun R kk e x0 x1 K=>by
 simp only[fS,VE,zzq,zzr,aiR (hF:=e),afw,afx,aD,<-e]
def Xt:Env:=b9.env (fun i=>bif Nat.beq i 2 then [0,1,7,8] else []) (fun i=>bif Nat.beq i 2 then [4] else []) [] [(.sl 3 (.int .i64)),(.int .i64)]
def VL(a:(List Int))(b c d:Int):Option R:=aB (ev Xt (wO R) kk (sub [1,0,1,0,0] (cd Tryz.f150))) [0,1,7,8] [4] k ⟨[.aj (.sl 3 (.int .i64)) a []]::[tI b]::uS 5 ([tI c]::[tI d]::uS 10 []),nS 20 []⟩ J
def zgj(a:Int):State:=⟨uS 4 ([tI a]::uS 14 []),nS 20 []⟩
def zgk:State:=⟨uS 19 [],nS 20 []⟩
def C6:KX R:=(zk 0 (aU Xt (wO R) kk (sub [1,1] (cd Tryz.f150)) (aT Xt Tryz.f150.results.toList none K)))
theorem al4(a:(List Int))(b c d:Int):VL R kk (k+1) J a b c d=
 C7 a b c d (fun a0=>J .ret (zgj a0)) (VL R kk k J) (J (.exit 0) (zgk)):=by kernel_rfl
theorem afC(a:Int):C6 R kk K .ret (zgj a)=
 C8 a (fun a0=>K [tI a0] none):=by kernel_rfl
theorem afD:C6 R kk K (.exit 0) (zgk)=
 C9 (fun a0=>K [tI a0] none):=by kernel_rfl
theorem aiU{kk:Nat}(hF:kk=ag)(lY:(List Int))(Zc t7 t8:Int):VL R kk k J lY Zc t7 t8=(QZ k lY Zc t7 t8).bind fun e=>(Sum.elim (fun(we:Int)=>J .ret (zgj we)) (fun(we:Unit)=>J (.exit 0) (zgk)) e):=by
 induction k generalizing lY Zc t7 t8 with
 |zero=>rfl
 |succ k ih=>
  rw[al4]
  simp only[QZ,C7,ih,aD]
def Ju:ah:=wO.add 150 [(.sl 3 (.int .i64)),(.int .i64)] (dt (.sl 3 (.int .i64)) (.int .i64) vZ (fun _ r K=>K [tI r] none))
theorem o50:aP Tryz.prog Ju:=dv Xt Tryz.f150 (fun R kk x0 x1 K=>VM x0 x1 (VL R kk kk (C6 R kk K))) o49 (ek _ _ _ _) Tryz.func150 (by kernel_rfl) rfl (fun _ _ _ _ _ _ h=>h _ _) (fun _ _ _ _ _=>by kernel_rfl) fun R kk e x0 x1 K=>by
 simp only[vZ,VM,C8,C9,aiU (hF:=e),afC,afD,aD,<-e]
def an6:Env:=e0 [(.sl 3 (.int .i64)),(.int .i64)]
def Jv:ah:=Ju.add 97 [(.sl 3 (.int .i64)),(.int .i64)] (dt (.sl 3 (.int .i64)) (.int .i64) tz (fun _ r K=>K [tB r] none))
theorem o51:aP Tryz.prog Jv:=dv an6 Tryz.f97 (fun R kk x0 x1 K=>VG x0 x1 (fun a0=>K [tB a0] none)) o50 (ek _ _ _ _) Tryz.func97 (by kernel_rfl) rfl (fun _ _ _ _ _ _ h=>h _ _) (fun _ _ _ _ _=>by kernel_rfl) fun R kk e x0 x1 K=>by
 simp only[tz,VG,aD]
def anY:Env:=e0 [cz,(.int .i64)]
def Jw:ah:=Jv.add 70 [cz,(.int .i64)] (dt cz (.int .i64) tn (fun _ r K=>K [tI r] none))
theorem o52:aP Tryz.prog Jw:=dv anY Tryz.f70 (fun R kk x0 x1 K=>Vp x0 x1 (fun a0=>K [tI a0] none)) o51 (ek _ _ _ _) Tryz.func70 (by kernel_rfl) rfl (fun _ _ _ _ _ _ h=>h _ _) (fun _ _ _ _ _=>by kernel_rfl) fun R kk e x0 x1 K=>by
 simp only[tn,Vp,aD]
def anX:Env:=e0 [(.pair (.int .i64) (.pair .str .unit)),.unit]
def wP:ah:=Jw.add 99 [(.pair (.int .i64) (.pair .str .unit)),.unit] (pz (.pair (.int .i64) (.pair .str .unit)) (.pair (.int .i64) (.pair .str .unit)) (.pair (.int .i64) (.pair .str .unit)) [] qY (fun _ r K=>K [tB r.1] (some ⟨(.pair (.int .i64) (.pair .str .unit)),r.2,[]⟩)))
theorem o53:aP Tryz.prog wP:=sz anX Tryz.f99 (fun R kk x0 x1 K=>Vo x0 x1 (fun a0 a1=>K [tB a0] (some ⟨(.pair (.int .i64) (.pair .str .unit)),a1,[]⟩))) o52 (ek _ _ _ _) Tryz.func99 (by kernel_rfl) rfl (fun _ _ _ _ _ _ h=>h _ _) (fun _ _ _ _ _=>by kernel_rfl) fun R kk e x0 x1 K=>by
 simp only[qY,Vo,aD]
def Xq:Env:=b9.env (fun i=>bif Nat.beq i 2 then [0,1,7,8] else []) (fun i=>bif Nat.beq i 2 then [4] else []) [] [(.sl 107 (.pair (.int .i64) (.pair .str .unit))),.unit]
def VH(a:ak)(b c:Int)(d:bd):Option R:=aB (ev Xq (wP R) kk (sub [1,0,1,0,0] (cd Tryz.f151))) [0,1,7,8] [4] k ⟨[.aj (.sl 107 (.pair (.int .i64) (.pair .str .unit))) a []]::[.ptr 0 (.aJ (.sj 99) (.pair (.int .i64) (.pair .str .unit)) .unit) []]::uS 5 ([tI b]::[tI c]::uS 10 []),(some ⟨(.pair (.int .i64) (.pair .str .unit)),d,[]⟩)::nS 19 []⟩ J
def zgf(a:Int)(b:bd):State:=⟨uS 4 ([tI a]::uS 14 []),(some ⟨(.pair (.int .i64) (.pair .str .unit)),b,[]⟩)::nS 19 []⟩
def zgg(a:bd):State:=⟨uS 19 [],(some ⟨(.pair (.int .i64) (.pair .str .unit)),a,[]⟩)::nS 19 []⟩
def zzt(a:bd):KX R:=(zk 0 (aU Xq (wP R) kk (sub [1,1] (cd Tryz.f151)) (aT Xq Tryz.f151.results.toList (some ⟨(.pair (.int .i64) (.pair .str .unit)),a,[]⟩) K)))
theorem al2(a:ak)(b c:Int)(d:bd):VH R kk (k+1) J a b c d=
 zzu a b c d (fun a0 a1=>J .ret (zgf a0 a1)) (VH R kk k J) (fun a0=>J (.exit 0) (zgg a0)):=by kernel_rfl
theorem afy(a:bd)(b:Int)(c:bd):zzt R kk K a .ret (zgf b c)=
 zzv b c (fun a0 a1=>K [tI a0] (some ⟨(.pair (.int .i64) (.pair .str .unit)),a1,[]⟩)):=by kernel_rfl
theorem afz(a b:bd):zzt R kk K a (.exit 0) (zgg b)=
 zzw b (fun a0 a1=>K [tI a0] (some ⟨(.pair (.int .i64) (.pair .str .unit)),a1,[]⟩)):=by kernel_rfl
theorem aiS{kk:Nat}(hF:kk=ag)(lY:ak)(t7 t8:Int)(recv:bd):VH R kk k J lY t7 t8 recv=(QX k lY t7 t8 recv).bind fun e=>(Sum.elim (fun(we:(Int×bd))=>J .ret (zgf we.1 we.2)) (fun(we:bd)=>J (.exit 0) (zgg we)) e):=by
 induction k generalizing lY t7 t8 recv with
 |zero=>rfl
 |succ k ih=>
  rw[al2]
  simp only[QX,zzu,ih,aD]
def Jx:ah:=wP.add 151 [(.sl 107 (.pair (.int .i64) (.pair .str .unit))),.unit] (pz (.sl 107 (.pair (.int .i64) (.pair .str .unit))) (.aJ (.sj 99) (.pair (.int .i64) (.pair .str .unit)) .unit) (.pair (.int .i64) (.pair .str .unit)) [] vY (fun _ r K=>K [tI r.1] (some ⟨(.pair (.int .i64) (.pair .str .unit)),r.2,[]⟩)))
theorem o54:aP Tryz.prog Jx:=sz Xq Tryz.f151 (fun R kk x0 x1 K=>VI x0 x1 (VH R kk kk (zzt R kk K x1))) o53 (ek _ _ _ _) Tryz.func151 (by kernel_rfl) rfl (fun _ _ _ _ _ _ h=>h _ _) (fun _ _ _ _ _=>by kernel_rfl) fun R kk e x0 x1 K=>by
 simp only[vY,VI,zzv,zzw,aiS (hF:=e),afy,afz,aD,<-e]
def an5:Env:=e0 [(.sl 107 (.pair (.int .i64) (.pair .str .unit))),.unit]
def Jy:ah:=Jx.add 98 [(.sl 107 (.pair (.int .i64) (.pair .str .unit))),.unit] (pz (.sl 107 (.pair (.int .i64) (.pair .str .unit))) (.aJ (.sj 99) (.pair (.int .i64) (.pair .str .unit)) .unit) (.pair (.int .i64) (.pair .str .unit)) [] tw (fun _ r K=>K [tB r.1] (some ⟨(.pair (.int .i64) (.pair .str .unit)),r.2,[]⟩)))
theorem o55:aP Tryz.prog Jy:=sz an5 Tryz.f98 (fun R kk x0 x1 K=>VF x0 x1 (fun a0 a1=>K [tB a0] (some ⟨(.pair (.int .i64) (.pair .str .unit)),a1,[]⟩))) o54 (ek _ _ _ _) Tryz.func98 (by kernel_rfl) rfl (fun _ _ _ _ _ _ h=>h _ _) (fun _ _ _ _ _=>by kernel_rfl) fun R kk e x0 x1 K=>by
 simp only[tw,VF,aD]
def H4:Env:=e0 [(.int .u8)]
def wQ:ah:=Jy.add 202 [(.int .u8)] (cO (.int .u8) BT (fun _ r K=>K [tI r] none))
theorem o56:aP Tryz.prog wQ:=cP H4 Tryz.f202 (fun R kk x0 K=>z159 x0 (fun a0=>K [tI a0] none)) o55 (ek _ _ _ _) Tryz.func202 (by kernel_rfl) rfl (fun _ _ _ _ _ _ h=>h _ _) (fun _ _ _ _=>by kernel_rfl) fun R kk e x0 K=>by
 simp only[BT,z159,aD]
def oY:Env:=b9.env (fun i=>bif Nat.beq i 3 then [1,5,6] else []) (fun i=>bif Nat.beq i 3 then [4] else []) [] [(.int .i64),.str]
def Xb(a:ByteArray)(b c:Int):Option R:=aB (ev oY (wQ R) kk (sub [1,1,0,1,0,0] (cd Tryz.f152))) [1,5,6] [4] k ⟨uS 1 ([tS a]::uS 3 ([tI b]::[tI c]::uS 16 [])),nS 24 []⟩ J
def zpk(a:Int):State:=⟨uS 4 ([tI a]::uS 18 []),nS 24 []⟩
def zpl:State:=⟨uS 23 [],nS 24 []⟩
def z156:KX R:=(zk 0 (aU oY (wQ R) kk (sub [1,1,1] (cd Tryz.f152)) (aT oY Tryz.f152.results.toList none K)))
theorem anJ(a:ByteArray)(b c:Int):Xb R kk (k+1) J a b c=
 Rv a b c (fun a0=>J .ret (zpk a0)) (Xb R kk k J) (J (.exit 0) (zpl)):=by kernel_rfl
theorem aiC(a:Int):z156 R kk K .ret (zpk a)=
 z157 a (fun a0=>K [tI a0] none):=by kernel_rfl
theorem aiD:z156 R kk K (.exit 0) (zpl)=
 D2 (fun a0=>K [tI a0] none):=by kernel_rfl
theorem alM{kk:Nat}(hF:kk=ag)(jH:ByteArray)(t5 t6:Int):Xb R kk k J jH t5 t6=(F2 k jH t5 t6).bind fun e=>(Sum.elim (fun(we:Int)=>J .ret (zpk we)) (fun(we:Unit)=>J (.exit 0) (zpl)) e):=by
 induction k generalizing jH t5 t6 with
 |zero=>rfl
 |succ k ih=>
  rw[anJ]
  simp only[F2,Rv,ih,aD]
def Jz:ah:=wQ.add 152 [(.int .i64),.str] (dt (.int .i64) .str HZ (fun _ r K=>K [tI r] none))
theorem o57:aP Tryz.prog Jz:=dv oY Tryz.f152 (fun R kk x0 x1 K=>Xc x0 x1 (Xb R kk kk (z156 R kk K))) o56 (ek _ _ _ _) Tryz.func152 (by kernel_rfl) rfl (fun _ _ _ _ _ _ h=>h _ _) (fun _ _ _ _ _=>by kernel_rfl) fun R kk e x0 x1 K=>by
 simp only[HZ,Xc,z157,D2,alM (hF:=e),aiC,aiD,aD,<-e]
def aoh:Env:=e0 [(.int .i64)]
def JA:ah:=Jz.add 222 [(.int .i64)] (cO (.int .i64) n7 (fun _ r K=>K [tB r] none))
theorem o58:aP Tryz.prog JA:=cP aoh Tryz.f222 (fun R kk x0 K=>Db x0 (fun a0=>K [tB a0] none)) o57 (ek _ _ _ _) Tryz.func222 (by kernel_rfl) rfl (fun _ _ _ _ _ _ h=>h _ _) (fun _ _ _ _=>by kernel_rfl) fun R kk e x0 K=>by
 simp only[n7,Db,aD]
def aog:Env:=e0 [(.int .i64)]
def JB:ah:=JA.add 223 [(.int .i64)] (cO (.int .i64) tG (fun _ r K=>K [tB r] none))
theorem o59:aP Tryz.prog JB:=cP aog Tryz.f223 (fun R kk x0 K=>V4 x0 (fun a0=>K [tB a0] none)) o58 (ek _ _ _ _) Tryz.func223 (by kernel_rfl) rfl (fun _ _ _ _ _ _ h=>h _ _) (fun _ _ _ _=>by kernel_rfl) fun R kk e x0 K=>by
 simp only[tG,V4,aD]
def aof:Env:=e0 [.str,(.int .i64)]
def JC:ah:=JB.add 203 [.str,(.int .i64)] (dt .str (.int .i64) tF (fun _ r K=>K [tI r.1,tI r.2.1,tI r.2.2] none))
theorem o60:aP Tryz.prog JC:=dv aof Tryz.f203 (fun R kk x0 x1 K=>V3 x0 x1 (fun a0 a1 a2=>K [tI a0,tI a1,tI a2] none)) o59 (ek _ _ _ _) Tryz.func203 (by kernel_rfl) rfl (fun _ _ _ _ _ _ h=>h _ _) (fun _ _ _ _ _=>by kernel_rfl) fun R kk e x0 x1 K=>by
 simp only[tF,V3,aD]
def Y5:Env:=e0 [(.int .i64)]
def wR:ah:=JC.add 224 [(.int .i64)] (cO (.int .i64) Q4 (fun _ r K=>K [tI r] none))
theorem o61:aP Tryz.prog wR:=cP Y5 Tryz.f224 (fun R kk x0 K=>pw x0 (fun a0=>K [tI a0] none)) o60 (ek _ _ _ _) Tryz.func224 (by kernel_rfl) rfl (fun _ _ _ _ _ _ h=>h _ _) (fun _ _ _ _=>by kernel_rfl) fun R kk e x0 K=>by
 simp only[Q4,pw,aD]
def wo:Env:=b9.env (fun i=>bif Nat.beq i 14 then [0,1,7,8,44,45] else []) (fun i=>bif Nat.beq i 14 then [1,7,8] else []) [] [.str,(.int .i64)]
def pn(a:ByteArray)(b c d e f:Int):Option R:=aB (ev wo (wR R) kk (sub [1,1,1,1,1,1,1,0,1,0,0] (cd Tryz.f204))) [0,1,7,8,44,45] [1,7,8] k ⟨[tS a]::[tI b]::uS 5 ([tI c]::[tI d]::uS 35 ([tI e]::[tI f]::uS 21 [])),nS 68 []⟩ J
def DF(a b c:Int):State:=⟨uS 1 ([tI a]::uS 5 ([tI b]::[tI c]::uS 58 [])),nS 68 []⟩
def yB:KX R:=(zk 0 (aU wo (wR R) kk (sub [1,1,1,1,1,1,1,1] (cd Tryz.f204)) (aT wo Tryz.f204.results.toList none K)))
theorem Iv(a:ByteArray)(b c d e f:Int):pn R kk (k+1) J a b c d e f=
 ld a b c d e f (pn R kk k J) (fun a0 a1 a2=>J (.exit 0) (DF a0 a1 a2)):=by kernel_rfl
theorem amo(a b c:Int):yB R kk K (.exit 0) (DF a b c)=
 lf a b c (fun a0 a1 a2=>K [tI a0,tI a1,tI a2] none):=by kernel_rfl
theorem aor{kk:Nat}(hF:kk=ag)(oi:ByteArray)(B5 t7 t8 t44 t45:Int):pn R kk k J oi B5 t7 t8 t44 t45=(eV k oi B5 t7 t8 t44 t45).bind fun e=>J (.exit 0) (DF e.1 e.2.1 e.2.2):=by
 induction k generalizing oi B5 t7 t8 t44 t45 with
 |zero=>rfl
 |succ k ih=>
  rw[Iv]
  simp only[eV,ld,ih,aD]
def wS:ah:=wR.add 204 [.str,(.int .i64)] (dt .str (.int .i64) Q3 (fun _ r K=>K [tI r.1,tI r.2.1,tI r.2.2] none))
theorem o62:aP Tryz.prog wS:=dv wo Tryz.f204 (fun R kk x0 x1 K=>kZ x0 x1 (fun a0 a1 a2=>K [tI a0,tI a1,tI a2] none) (fun a0 a1 a2 a3 a4 a5=>pn R kk kk (yB R kk K) a0 a1 a2 a3 a4 a5)) o61 (ek _ _ _ _) Tryz.func204 (by kernel_rfl) rfl (fun _ _ _ _ _ _ h=>h _ _) (fun _ _ _ _ _=>by kernel_rfl) fun R kk e x0 x1 K=>by
 simp only[Q3,adh,lf,aor (hF:=e),amo,aD,<-e]
def Xz:Env:=b9.env (fun i=>bif Nat.beq i 4 then [0,5,6,7,13] else []) (fun i=>bif Nat.beq i 4 then [2,3,4,5] else []) [] [.str]
def V5(a:ByteArray)(b:ak)(c:Int)(d:BZ):Option R:=aB (ev Xz (wS R) kk (sub [1,1,1,0,1,0,0] (cd Tryz.f153))) [0,5,6,7,13] [2,3,4,5] k ⟨[tS a]::uS 4 ([.aj (.sl 245 (.pair (.int .i64) (.pair .str .unit))) b [[]]]::[.ptr 14 (.aJ .mp (.int .i64) .bool) []]::[tI c]::uS 5 ([.ptr 14 (.aJ .mp (.int .i64) .bool) []]::uS 58 [])),nS 14 ((some ⟨(.aJ .mp (.int .i64) .bool),d,[]⟩)::nS 58 [])⟩ J
def zgq(a:ak)(b c:Int)(d:ak):State:=⟨uS 2 ([.aj (.sl 245 (.pair (.int .i64) (.pair .str .unit))) a [[]]]::[tI b]::[tI c]::[.aj (.sl 245 (.pair (.int .i64) (.pair .str .unit))) d [[]]]::uS 66 []),nS 73 []⟩
def zgr(a:ak):State:=⟨uS 5 ([.aj (.sl 245 (.pair (.int .i64) (.pair .str .unit))) a [[]]]::uS 66 []),nS 73 []⟩
def Dc:KX R:=(zk 0 (aU Xz (wS R) kk (sub [1,1,1,1] (cd Tryz.f153)) (aT Xz Tryz.f153.results.toList none K)))
theorem al9(a:ByteArray)(b:ak)(c:Int)(d:BZ):V5 R kk (k+1) J a b c d=
 V7 a b c d (fun a0 a1 a2 a3=>J .ret (zgq a0 a1 a2 a3)) (V5 R kk k J) (fun a0=>J (.exit 0) (zgr a0)):=by kernel_rfl
theorem afI(a:ak)(b c:Int)(d:ak):Dc R kk K .ret (zgq a b c d)=
 Dd a b c d (fun a0 a1 a2=>K [.aj (.sl 245 (.pair (.int .i64) (.pair .str .unit))) a0 [[]],tI a1,tI a2] none):=by kernel_rfl
theorem afJ(a:ak):Dc R kk K (.exit 0) (zgr a)=
 De a (fun a0 a1 a2=>K [.aj (.sl 245 (.pair (.int .i64) (.pair .str .unit))) a0 [],tI a1,tI a2] none):=by kernel_rfl
theorem ai0{kk:Nat}(hF:kk=ag)(oi:ByteArray)(t5:ak)(t7:Int)(gU:BZ):V5 R kk k J oi t5 t7 gU=(Hr k oi t5 t7 gU).bind fun e=>(Sum.elim (fun(we:rj)=>J .ret (zgq we.1 we.2.1 we.2.2.1 we.2.2.2)) (fun(we:ak)=>J (.exit 0) (zgr we)) e):=by
 induction k generalizing oi t5 t7 gU with
 |zero=>rfl
 |succ k ih=>
  rw[al9]
  simp only[Hr,V7,ih,aD]
def JD:ah:=wS.add 153 [.str] (cO .str tH (fun _ r K=>(Sum.elim (fun(wr:jx)=>K [.aj (.sl 245 (.pair (.int .i64) (.pair .str .unit))) wr.1 [[]],tI wr.2.1,tI wr.2.2] none) (fun(wr:jx)=>K [.aj (.sl 245 (.pair (.int .i64) (.pair .str .unit))) wr.1 [],tI wr.2.1,tI wr.2.2] none) r)))
theorem o63:aP Tryz.prog JD:=cP Xz Tryz.f153 (fun R kk x0 K=>V6 x0 (V5 R kk kk (Dc R kk K))) o62 (ek _ _ _ _) Tryz.func153 (by kernel_rfl) rfl (fun _ _ _ _ _ _ h=>Rq (fun _=>h _ _) (fun _=>h _ _)) (fun _ _ _ _=>by kernel_rfl) fun R kk e x0 K=>by
 simp only[tH,V6,Dd,De,ai0 (hF:=e),afI,afJ,aD,<-e]
def an9:Env:=e0 [cL,.str]
def JE:ah:=JD.add 100 [cL,.str] (dt cL .str bX (fun _ r K=>K [tI r] none))
theorem o64:aP Tryz.prog JE:=dv an9 Tryz.f100 (fun R kk x0 x1 K=>VO x0 x1 (fun a0=>K [tI a0] none)) o63 (ek _ _ _ _) Tryz.func100 (by kernel_rfl) rfl (fun _ _ _ _ _ _ h=>h _ _) (fun _ _ _ _ _=>by kernel_rfl) fun R kk e x0 x1 K=>by
 simp only[bX,VO,aD]
def anW:Env:=e0 [cz,(.int .i64),cL]
def ri:ah:=JE.add 71 [cz,(.int .i64),cL] (kE cz (.int .i64) cL tm (fun _ r K=>K [tI r] none))
theorem o65:aP Tryz.prog ri:=kU anW Tryz.f71 (fun R kk x0 x1 x2 K=>Vn x0 x1 x2 (fun a0=>K [tI a0] none)) o64 (ek _ _ _ _) Tryz.func71 (by kernel_rfl) rfl (fun _ _ _ _ _ _ h=>h _ _) (fun _ _ _ _ _ _=>by kernel_rfl) fun R kk e x0 x1 x2 K=>by
 simp only[tm,Vn,aD]
def F3:Env:=b9.env (fun i=>bif Nat.beq i 8 then [1,7,33,34] else bif Nat.beq i 16 then [1,7,11,46,47,48] else []) (fun i=>bif Nat.beq i 8 then [1,2,3,4,7] else bif Nat.beq i 16 then [1,2,3,4,11] else []) [] [cz]
def Ve(a b:Int)(c:ar)(d:aS):Option R:=aB (ev F3 (ri R) kk (sub [1,1,1,1,0,1,0,0] (cd Tryz.f55))) [1,7,33,34] [1,2,3,4,7] k ⟨uS 1 ([.ptr 2 cz []]::uS 5 ([.ptr 8 cL []]::uS 25 ([tI a]::[tI b]::uS 38 []))),nS 2 ((some ⟨cz,c,[]⟩)::nS 5 ((some ⟨cL,d,[]⟩)::nS 65 []))⟩ J
def zfz(a b c:Int)(d:ar)(e:aS):State:=⟨uS 1 ([.ptr 2 cz []]::[tI a]::[tI b]::[tI c]::uS 2 ([.ptr 8 cL []]::uS 65 [])),nS 2 ((some ⟨cz,d,[]⟩)::nS 5 ((some ⟨cL,e,[]⟩)::nS 65 []))⟩
def zg0(a:ar)(b:aS):State:=⟨uS 1 ([.ptr 2 cz []]::uS 5 ([.ptr 8 cL []]::uS 65 [])),nS 2 ((some ⟨cz,a,[]⟩)::nS 5 ((some ⟨cL,b,[]⟩)::nS 65 []))⟩
def zz6:KX R:=(zk 0 (aU F3 (ri R) kk (sub [1,1,1,1,1] (cd Tryz.f55)) (aT F3 Tryz.f55.results.toList none K)))
def Vf(a:Bool)(b:ak)(c d:Int)(e:ar)(f:aS):Option R:=aB (ev F3 (ri R) kk (sub [1,1,1,1,1,1,0,1,0,0] (cd Tryz.f55))) [1,7,11,46,47,48] [1,2,3,4,11] k ⟨uS 1 ([.ptr 2 cz []]::uS 5 ([.ptr 8 cL []]::uS 3 ([tB a]::uS 34 ([.aj (.sl 107 (.pair (.int .i64) (.pair .str .unit))) b []]::[tI c]::[tI d]::uS 24 [])))),nS 2 ((some ⟨cz,e,[]⟩)::nS 5 ((some ⟨cL,f,[]⟩)::nS 65 []))⟩ J
def zg1(a b c:Int)(d:Bool)(e:ar):State:=⟨uS 1 ([.ptr 2 cz []]::[tI a]::[tI b]::[tI c]::uS 6 ([tB d]::uS 61 [])),nS 2 ((some ⟨cz,e,[]⟩)::nS 71 [])⟩
def zg2(a:Bool)(b:ar):State:=⟨uS 1 ([.ptr 2 cz []]::uS 9 ([tB a]::uS 61 [])),nS 2 ((some ⟨cz,b,[]⟩)::nS 71 [])⟩
def zz7:KX R:=(zk 2 (aU F3 (ri R) kk (sub [1,1,1,1,1,1,1] (cd Tryz.f55)) (aT F3 Tryz.f55.results.toList none K)))
theorem alT(a b:Int)(c:ar)(d:aS):Ve R kk (k+1) J a b c d=
 QR a b c d (fun a0 a1 a2 a3 a4=>J .ret (zfz a0 a1 a2 a3 a4)) (Ve R kk k J) (fun a0 a1=>J (.exit 0) (zg0 a0 a1)):=by kernel_rfl
theorem afh(a b c:Int)(d:ar)(e:aS):zz6 R kk K .ret (zfz a b c d e)=
 zz8 a b c d e (fun a0 a1 a2=>K [tI a0,tI a1,tI a2] none):=by kernel_rfl
theorem afi(a:ar)(b:aS):zz6 R kk K (.exit 0) (zg0 a b)=
 Vh a b (Vf R kk kk (zz7 R kk K)):=by kernel_rfl
theorem alU(a:Bool)(b:ak)(c d:Int)(e:ar)(f:aS):Vf R kk (k+1) J a b c d e f=
 QS a b c d e f (fun a0 a1 a2 a3 a4=>J .ret (zg1 a0 a1 a2 a3 a4)) (Vf R kk k J) (fun a0 a1=>J (.exit 2) (zg2 a0 a1)):=by kernel_rfl
theorem afj(a b c:Int)(d:Bool)(e:ar):zz7 R kk K .ret (zg1 a b c d e)=
 zz9 a b c d e (fun a0 a1 a2=>K [tI a0,tI a1,tI a2] none):=by kernel_rfl
theorem afk(a:Bool)(b:ar):zz7 R kk K (.exit 2) (zg2 a b)=
 Vi a b (fun a0 a1 a2=>K [tI a0,tI a1,tI a2] none):=by kernel_rfl
theorem aiK{kk:Nat}(hF:kk=ag)(t33 t34:Int)(c9:ar)(iO:aS):Ve R kk k J t33 t34 c9 iO=(FN k t33 t34 c9 iO).bind fun e=>(Sum.elim (fun(we:(Int×Int×Int×ar×aS))=>J .ret (zfz we.1 we.2.1 we.2.2.1 we.2.2.2.1 we.2.2.2.2)) (fun(we:(ar×aS))=>J (.exit 0) (zg0 we.1 we.2)) e):=by
 induction k generalizing t33 t34 c9 iO with
 |zero=>rfl
 |succ k ih=>
  rw[alT]
  simp only[FN,QR,ih,aD]
theorem aiL{kk:Nat}(hF:kk=ag)(t11:Bool)(t46:ak)(t47 t48:Int)(c9:ar)(iO:aS):Vf R kk k J t11 t46 t47 t48 c9 iO=(FO k t11 t46 t47 t48 c9 iO).bind fun e=>(Sum.elim (fun(we:(Int×Int×Int×Bool×ar))=>J .ret (zg1 we.1 we.2.1 we.2.2.1 we.2.2.2.1 we.2.2.2.2)) (fun(we:(Bool×ar))=>J (.exit 2) (zg2 we.1 we.2)) e):=by
 induction k generalizing t11 t46 t47 t48 c9 iO with
 |zero=>rfl
 |succ k ih=>
  rw[alU]
  simp only[FO,QS,ih,aD]
def wT:ah:=ri.add 55 [cz] (cO cz tj (fun _ r K=>K [tI r.1,tI r.2.1,tI r.2.2] none))
theorem o66:aP Tryz.prog wT:=cP F3 Tryz.f55 (fun R kk x0 K=>Vg x0 (fun a0 a1 a2=>K [tI a0,tI a1,tI a2] none) (Ve R kk kk (zz6 R kk K))) o65 (ek _ _ _ _) Tryz.func55 (by kernel_rfl) rfl (fun _ _ _ _ _ _ h=>h _ _) (fun _ _ _ _=>by kernel_rfl) fun R kk e x0 K=>by
 simp only[tj,Vg,zz8,Vh,zz9,Vi,aiK (hF:=e),aiL (hF:=e),afh,afi,afj,afk,aD,<-e]
def pd:Env:=b9.env (fun i=>bif Nat.beq i 2 then [6] else []) (fun i=>bif Nat.beq i 2 then [2] else []) [] [.str]
def XF(a:mS):Option R:=aB (ev pd (wT R) kk (sub [1,0,1,0,0] (cd Tryz.f205))) [6] [2] k ⟨uS 6 ([.ptr 7 (.aJ .iter .unit .unit) []]::uS 9 []),nS 7 ((some ⟨(.aJ .iter .unit .unit),a,[]⟩)::nS 9 [])⟩ J
def zpq(a:Bool):State:=⟨uS 2 ([tB a]::uS 13 []),nS 17 []⟩
def zpr:State:=⟨uS 16 [],nS 17 []⟩
def Eb:KX R:=(zk 0 (aU pd (wT R) kk (sub [1,1] (cd Tryz.f205)) (aT pd Tryz.f205.results.toList none K)))
theorem aol(a:mS):XF R kk (k+1) J a=
 XH a (fun a0=>J .ret (zpq a0)) (XF R kk k J) (J (.exit 0) (zpr)):=by kernel_rfl
theorem ajb(a:Bool):Eb R kk K .ret (zpq a)=
 Ec a (fun a0=>K [tB a0] none):=by kernel_rfl
theorem ajc:Eb R kk K (.exit 0) (zpr)=
 Ed (fun a0=>K [tB a0] none):=by kernel_rfl
theorem amj{kk:Nat}(hF:kk=ag)(gU:mS):XF R kk k J gU=(Hz k gU).bind fun e=>(Sum.elim (fun(we:Bool)=>J .ret (zpq we)) (fun(we:Unit)=>J (.exit 0) (zpr)) e):=by
 induction k generalizing gU with
 |zero=>rfl
 |succ k ih=>
  rw[aol]
  simp only[Hz,XH,ih,aD]
def JF:ah:=wT.add 205 [.str] (cO .str yy (fun _ r K=>K [tB r] none))
theorem o67:aP Tryz.prog JF:=cP pd Tryz.f205 (fun R kk x0 K=>XG x0 (XF R kk kk (Eb R kk K))) o66 (ek _ _ _ _) Tryz.func205 (by kernel_rfl) rfl (fun _ _ _ _ _ _ h=>h _ _) (fun _ _ _ _=>by kernel_rfl) fun R kk e x0 K=>by
 simp only[yy,XG,Ec,Ed,amj (hF:=e),ajb,ajc,aD,<-e]
def anQ:Env:=e0 [.str]
def JG:ah:=JF.add 154 [.str] (cO .str n4 (fun _ r K=>K [tB r] none))
theorem o68:aP Tryz.prog JG:=cP anQ Tryz.f154 (fun R kk x0 K=>U5 x0 (fun a0=>K [tB a0] none)) o67 (ek _ _ _ _) Tryz.func154 (by kernel_rfl) rfl (fun _ _ _ _ _ _ h=>h _ _) (fun _ _ _ _=>by kernel_rfl) fun R kk e x0 K=>by
 simp only[n4,U5,aD]
def anR:Env:=e0 [.str]
def JH:ah:=JG.add 101 [.str] (cO .str ju (fun _ r K=>K [tI r.1,tB r.2] none))
theorem o69:aP Tryz.prog JH:=cP anR Tryz.f101 (fun R kk x0 K=>U6 x0 (fun a0 a1=>K [tI a0,tB a1] none)) o68 (ek _ _ _ _) Tryz.func101 (by kernel_rfl) rfl (fun _ _ _ _ _ _ h=>h _ _) (fun _ _ _ _=>by kernel_rfl) fun R kk e x0 K=>by
 simp only[ju,U6,aD]
def anO:Env:=e0 [.str]
def JI:ah:=JH.add 102 [.str] (cO .str n3 (fun _ r K=>K [tB r] none))
theorem o70:aP Tryz.prog JI:=cP anO Tryz.f102 (fun R kk x0 K=>U3 x0 (fun a0=>K [tB a0] none)) o69 (ek _ _ _ _) Tryz.func102 (by kernel_rfl) rfl (fun _ _ _ _ _ _ h=>h _ _) (fun _ _ _ _=>by kernel_rfl) fun R kk e x0 K=>by
 simp only[n3,U3,aD]
def aom:Env:=e0 [(.pair .str (.pair .str .unit)),aK,aK]
def JJ:ah:=JI.add 72 [(.pair .str (.pair .str .unit)),aK,aK] (kE (.pair .str (.pair .str .unit)) aK aK oc (fun _ r K=>K [tB r] none))
theorem o71:aP Tryz.prog JJ:=kU aom Tryz.f72 (fun R kk x0 x1 x2 K=>Ws x0 x1 x2 (fun a0=>K [tB a0] none)) o70 (ek _ _ _ _) Tryz.func72 (by kernel_rfl) rfl (fun _ _ _ _ _ _ h=>h _ _) (fun _ _ _ _ _ _=>by kernel_rfl) fun R kk e x0 x1 x2 K=>by
 simp only[oc,Ws,aD]
def an3:Env:=b9.env (fun _=>[]) (fun _=>[]) [6,7] [cB,aK,aK]
def JK:ah:=JJ.add 103 [cB,aK,aK] (kE cB aK aK tv (fun _ r K=>K [.aj cL r.1 [],.aj cL r.2.1 [],tI r.2.2] none))
theorem o72:aP Tryz.prog JK:=kU an3 Tryz.f103 (fun R kk x0 x1 x2 K=>Vw x0 x1 x2 (fun a0 a1 a2=>K [.aj cL a0 [],.aj cL a1 [],tI a2] none)) o71 (ek _ _ _ _) Tryz.func103 (by kernel_rfl) rfl (fun _ _ _ _ _ _ h=>h _ _) (fun _ _ _ _ _ _=>by kernel_rfl) fun R kk e x0 x1 x2 K=>by
 simp only[tv,Vw,aD]
def H3:Env:=e0 [(.int .i64),(.int .i64)]
def JL:ah:=JK.add 206 [(.int .i64),(.int .i64)] (dt (.int .i64) (.int .i64) H2 (fun _ r K=>K [tB r] none))
theorem o73:aP Tryz.prog JL:=dv H3 Tryz.f206 (fun R kk x0 x1 K=>Xj x0 x1 (fun a0=>K [tB a0] none)) o72 (ek _ _ _ _) Tryz.func206 (by kernel_rfl) rfl (fun _ _ _ _ _ _ h=>h _ _) (fun _ _ _ _ _=>by kernel_rfl) fun R kk e x0 x1 K=>by
 simp only[H2,Xj,aD]
def aob:Env:=e0 [(.int .i64),(.int .i64)]
def JM:ah:=JL.add 155 [(.int .i64),(.int .i64)] (dt (.int .i64) (.int .i64) wg (fun _ r K=>K [tB r] none))
theorem o74:aP Tryz.prog JM:=dv aob Tryz.f155 (fun R kk x0 x1 K=>VQ x0 x1 (fun a0=>K [tB a0] none)) o73 (ek _ _ _ _) Tryz.func155 (by kernel_rfl) rfl (fun _ _ _ _ _ _ h=>h _ _) (fun _ _ _ _ _=>by kernel_rfl) fun R kk e x0 x1 K=>by
 simp only[wg,VQ,aD]
def aoa:Env:=e0 [cL,cL]
def JN:ah:=JM.add 104 [cL,cL] (dt cL cL lR (fun _ r K=>K [tB r] none))
theorem o75:aP Tryz.prog JN:=dv aoa Tryz.f104 (fun R kk x0 x1 K=>VP x0 x1 (fun a0=>K [tB a0] none)) o74 (ek _ _ _ _) Tryz.func104 (by kernel_rfl) rfl (fun _ _ _ _ _ _ h=>h _ _) (fun _ _ _ _ _=>by kernel_rfl) fun R kk e x0 x1 K=>by
 simp only[lR,VP,aD]
def an4:Env:=e0 [cL]
def wU:ah:=JN.add 105 [cL] (cO cL jv (fun _ r K=>K [tB r] none))
theorem o76:aP Tryz.prog wU:=cP an4 Tryz.f105 (fun R kk x0 K=>Vx x0 (fun a0=>K [tB a0] none)) o75 (ek _ _ _ _) Tryz.func105 (by kernel_rfl) rfl (fun _ _ _ _ _ _ h=>h _ _) (fun _ _ _ _=>by kernel_rfl) fun R kk e x0 K=>by
 simp only[jv,Vx,aD]
def pc:Env:=b9.env (fun i=>bif Nat.beq i 5 then [4,10,11,12,13] else []) (fun i=>bif Nat.beq i 5 then [2,3] else []) [] [(.sl 109 (.pair .str (.pair .str .unit)))]
def XA(a:aO)(b c:Int)(d:ij):Option R:=aB (ev pc (wU R) kk (sub [1,1,1,0,1,0,0] (cd Tryz.f156))) [4,10,11,12,13] [2,3] k ⟨uS 4 ([.ptr 11 (.aJ .mp .str .bool) []]::uS 5 ([.ptr 11 (.aJ .mp .str .bool) []]::[.aj (.sl 109 (.pair .str (.pair .str .unit))) a []]::[tI b]::[tI c]::uS 13 [])),nS 11 ((some ⟨(.aJ .mp .str .bool),d,[]⟩)::nS 16 [])⟩ J
def zpo(a b:Int):State:=⟨uS 2 ([tI a]::[tI b]::uS 23 []),nS 28 []⟩
def zpp:State:=⟨uS 27 [],nS 28 []⟩
def D7:KX R:=(zk 0 (aU pc (wU R) kk (sub [1,1,1,1] (cd Tryz.f156)) (aT pc Tryz.f156.results.toList none K)))
theorem aoi(a:aO)(b c:Int)(d:ij):XA R kk (k+1) J a b c d=
 D8 a b c d (fun a0 a1=>J .ret (zpo a0 a1)) (XA R kk k J) (J (.exit 0) (zpp)):=by kernel_rfl
theorem ai1(a b:Int):D7 R kk K .ret (zpo a b)=
 D9 a b (fun a0 a1=>K [tI a0,tI a1] none):=by kernel_rfl
theorem ai2:D7 R kk K (.exit 0) (zpp)=
 Ea (fun a0 a1=>K [tI a0,tI a1] none):=by kernel_rfl
theorem ama{kk:Nat}(hF:kk=ag)(t11:aO)(t12 t13:Int)(cQ:ij):XA R kk k J t11 t12 t13 cQ=(Rx k t11 t12 t13 cQ).bind fun e=>(Sum.elim (fun(we:(Int×Int))=>J .ret (zpo we.1 we.2)) (fun(we:Unit)=>J (.exit 0) (zpp)) e):=by
 induction k generalizing t11 t12 t13 cQ with
 |zero=>rfl
 |succ k ih=>
  rw[aoi]
  simp only[Rx,D8,ih,aD]
def wV:ah:=wU.add 156 [(.sl 109 (.pair .str (.pair .str .unit)))] (cO (.sl 109 (.pair .str (.pair .str .unit))) H8 (fun _ r K=>K [tI r.1,tI r.2] none))
theorem o77:aP Tryz.prog wV:=cP pc Tryz.f156 (fun R kk x0 K=>XB x0 (fun a0 a1=>K [tI a0,tI a1] none) (XA R kk kk (D7 R kk K))) o76 (ek _ _ _ _) Tryz.func156 (by kernel_rfl) rfl (fun _ _ _ _ _ _ h=>h _ _) (fun _ _ _ _=>by kernel_rfl) fun R kk e x0 K=>by
 simp only[H8,XB,D9,Ea,ama (hF:=e),ai1,ai2,aD,<-e]
def Xm:Env:=b9.env (fun i=>bif Nat.beq i 5 then [4,5,25,26,27] else []) (fun i=>bif Nat.beq i 5 then [6] else []) [] [(.sl 109 (.pair .str (.pair .str .unit))),cL,cL]
def Vy(a:aO)(b c:Int)(d e:aS):Option R:=aB (ev Xm (wV R) kk (sub [1,1,0,1,0,0] (cd Tryz.f106))) [4,5,25,26,27] [6] k ⟨uS 4 ([.ptr 5 cL []]::[.ptr 6 cL []]::uS 19 ([.aj (.sl 109 (.pair .str (.pair .str .unit))) a []]::[tI b]::[tI c]::uS 18 [])),nS 5 ((some ⟨cL,d,[]⟩)::(some ⟨cL,e,[]⟩)::nS 40 [])⟩ J
def zg9(a:Int):State:=⟨uS 6 ([tI a]::uS 39 []),nS 47 []⟩
def zga:State:=⟨uS 46 [],nS 47 []⟩
def zzj:KX R:=(zk 0 (aU Xm (wV R) kk (sub [1,1,1] (cd Tryz.f106)) (aT Xm Tryz.f106.results.toList none K)))
theorem alY(a:aO)(b c:Int)(d e:aS):Vy R kk (k+1) J a b c d e=
 zzk a b c d e (fun a0=>J .ret (zg9 a0)) (Vy R kk k J) (J (.exit 0) (zga)):=by kernel_rfl
theorem afr(a:Int):zzj R kk K .ret (zg9 a)=
 zzl a (fun a0=>K [tI a0] none):=by kernel_rfl
theorem afs:zzj R kk K (.exit 0) (zga)=
 zzm (fun a0=>K [tI a0] none):=by kernel_rfl
theorem aiP{kk:Nat}(hF:kk=ag)(t25:aO)(t26 t27:Int)(cQ eb:aS):Vy R kk k J t25 t26 t27 cQ eb=(QU k t25 t26 t27 cQ eb).bind fun e=>(Sum.elim (fun(we:Int)=>J .ret (zg9 we)) (fun(we:Unit)=>J (.exit 0) (zga)) e):=by
 induction k generalizing t25 t26 t27 cQ eb with
 |zero=>rfl
 |succ k ih=>
  rw[alY]
  simp only[QU,zzk,ih,aD]
def JO:ah:=wV.add 106 [(.sl 109 (.pair .str (.pair .str .unit))),cL,cL] (kE (.sl 109 (.pair .str (.pair .str .unit))) cL cL mK (fun _ r K=>K [tI r] none))
theorem o78:aP Tryz.prog JO:=kU Xm Tryz.f106 (fun R kk x0 x1 x2 K=>Vz x0 x1 x2 (fun a0=>K [tI a0] none) (Vy R kk kk (zzj R kk K))) o77 (ek _ _ _ _) Tryz.func106 (by kernel_rfl) rfl (fun _ _ _ _ _ _ h=>h _ _) (fun _ _ _ _ _ _=>by kernel_rfl) fun R kk e x0 x1 x2 K=>by
 simp only[mK,Vz,zzl,zzm,aiP (hF:=e),afr,afs,aD,<-e]
def an2:Env:=e0 [cB,aK,aK]
def JP:ah:=JO.add 73 [cB,aK,aK] (kE cB aK aK n6 (fun _ r K=>K [tI r] none))
theorem o79:aP Tryz.prog JP:=kU an2 Tryz.f73 (fun R kk x0 x1 x2 K=>Vv x0 x1 x2 (fun a0=>K [tI a0] none)) o78 (ek _ _ _ _) Tryz.func73 (by kernel_rfl) rfl (fun _ _ _ _ _ _ h=>h _ _) (fun _ _ _ _ _ _=>by kernel_rfl) fun R kk e x0 x1 x2 K=>by
 simp only[n6,Vv,aD]
def Im:Env:=b9.env (fun _=>[]) (fun _=>[]) [2] [(.int .i64)]
def JQ:ah:=JP.add 157 [(.int .i64)] (cO (.int .i64) Gi (fun _ r K=>K [.aj (.pair (.int .u64) (.pair (.int .u64) .unit)) r []] none))
theorem o80:aP Tryz.prog JQ:=cP Im Tryz.f157 (fun R kk x0 K=>XX x0 (fun a0=>K [.aj (.pair (.int .u64) (.pair (.int .u64) .unit)) a0 []] none)) o79 (ek _ _ _ _) Tryz.func157 (by kernel_rfl) rfl (fun _ _ _ _ _ _ h=>h _ _) (fun _ _ _ _=>by kernel_rfl) fun R kk e x0 K=>by
 simp only[Gi,XX,aD]
def Ig:Env:=b9.env (fun _=>[]) (fun _=>[]) [4] [(.pair (.int .u64) (.pair (.int .u64) .unit)),(.pair (.int .u64) (.pair (.int .u64) .unit))]
def JR:ah:=JQ.add 76 [(.pair (.int .u64) (.pair (.int .u64) .unit)),(.pair (.int .u64) (.pair (.int .u64) .unit))] (dt (.pair (.int .u64) (.pair (.int .u64) .unit)) (.pair (.int .u64) (.pair (.int .u64) .unit)) tL (fun _ r K=>K [.aj (.pair (.int .u64) (.pair (.int .u64) .unit)) r []] none))
theorem o81:aP Tryz.prog JR:=dv Ig Tryz.f76 (fun R kk x0 x1 K=>XT x0 x1 (fun a0=>K [.aj (.pair (.int .u64) (.pair (.int .u64) .unit)) a0 []] none)) o80 (ek _ _ _ _) Tryz.func76 (by kernel_rfl) rfl (fun _ _ _ _ _ _ h=>h _ _) (fun _ _ _ _ _=>by kernel_rfl) fun R kk e x0 x1 K=>by
 simp only[tL,XT,aD]
def Il:Env:=b9.env (fun _=>[]) (fun _=>[]) [4] [(.pair (.int .u64) (.pair (.int .u64) .unit)),(.int .i64)]
def wW:ah:=JR.add 107 [(.pair (.int .u64) (.pair (.int .u64) .unit)),(.int .i64)] (dt (.pair (.int .u64) (.pair (.int .u64) .unit)) (.int .i64) yA (fun _ r K=>K [.aj (.pair (.int .u64) (.pair (.int .u64) .unit)) r []] none))
theorem o82:aP Tryz.prog wW:=dv Il Tryz.f107 (fun R kk x0 x1 K=>XW x0 x1 (fun a0=>K [.aj (.pair (.int .u64) (.pair (.int .u64) .unit)) a0 []] none)) o81 (ek _ _ _ _) Tryz.func107 (by kernel_rfl) rfl (fun _ _ _ _ _ _ h=>h _ _) (fun _ _ _ _ _=>by kernel_rfl) fun R kk e x0 x1 K=>by
 simp only[yA,XW,aD]
def ph:Env:=b9.env (fun i=>bif Nat.beq i 3 then [2,3,6,7,8] else []) (fun i=>bif Nat.beq i 3 then [2,3] else []) [2] [(.sl 3 (.int .i64))]
def XQ(a:(List Int))(b c:Int)(d e:aR):Option R:=aB (ev ph (wW R) kk (sub [1,1,0,1,0,0] (cd Tryz.f74))) [2,3,6,7,8] [2,3] k ⟨uS 2 ([.ptr 3 (.pair (.int .u64) (.pair (.int .u64) .unit)) []]::[.ptr 4 (.pair (.int .u64) (.pair (.int .u64) .unit)) []]::uS 2 ([.aj (.sl 3 (.int .i64)) a []]::[tI b]::[tI c]::uS 8 [])),nS 3 ((some ⟨(.pair (.int .u64) (.pair (.int .u64) .unit)),d,[]⟩)::(some ⟨(.pair (.int .u64) (.pair (.int .u64) .unit)),e,[]⟩)::nS 13 [])⟩ J
def zpu(a b:aR):State:=⟨uS 2 ([.ptr 3 (.pair (.int .u64) (.pair (.int .u64) .unit)) []]::[.ptr 4 (.pair (.int .u64) (.pair (.int .u64) .unit)) []]::uS 13 []),nS 3 ((some ⟨(.pair (.int .u64) (.pair (.int .u64) .unit)),a,[]⟩)::(some ⟨(.pair (.int .u64) (.pair (.int .u64) .unit)),b,[]⟩)::nS 13 [])⟩
def Pk:KX R:=(zk 0 (aU ph (wW R) kk (sub [1,1,1] (cd Tryz.f74)) (aT ph Tryz.f74.results.toList none K)))
theorem aop(a:(List Int))(b c:Int)(d e:aR):XQ R kk (k+1) J a b c d e=
 Rz a b c d e (XQ R kk k J) (fun a0 a1=>J (.exit 0) (zpu a0 a1)):=by kernel_rfl
theorem ajf(a b:aR):Pk R kk K (.exit 0) (zpu a b)=
 XS a b (fun a0=>K [.aj (.pair (.int .u64) (.pair (.int .u64) .unit)) a0 []] none):=by kernel_rfl
theorem amm{kk:Nat}(hF:kk=ag)(t6:(List Int))(t7 t8:Int)(dG dH:aR):XQ R kk k J t6 t7 t8 dG dH=(BG k t6 t7 t8 dG dH).bind fun e=>J (.exit 0) (zpu e.1 e.2):=by
 induction k generalizing t6 t7 t8 dG dH with
 |zero=>rfl
 |succ k ih=>
  rw[aop]
  simp only[BG,Rz,ih,aD]
def JS:ah:=wW.add 74 [(.sl 3 (.int .i64))] (cO (.sl 3 (.int .i64)) vk (fun _ r K=>K [.aj (.pair (.int .u64) (.pair (.int .u64) .unit)) r []] none))
theorem o83:aP Tryz.prog JS:=cP ph Tryz.f74 (fun R kk x0 K=>XR x0 (XQ R kk kk (Pk R kk K))) o82 (ek _ _ _ _) Tryz.func74 (by kernel_rfl) rfl (fun _ _ _ _ _ _ h=>h _ _) (fun _ _ _ _=>by kernel_rfl) fun R kk e x0 K=>by
 simp only[vk,XR,XS,amm (hF:=e),ajf,aD,<-e]
def Ie:Env:=b9.env (fun _=>[]) (fun _=>[]) [4] [(.pair (.int .u64) (.pair (.int .u64) .unit)),(.pair (.int .u64) (.pair (.int .u64) .unit))]
def mR:ah:=JS.add 75 [(.pair (.int .u64) (.pair (.int .u64) .unit)),(.pair (.int .u64) (.pair (.int .u64) .unit))] (dt (.pair (.int .u64) (.pair (.int .u64) .unit)) (.pair (.int .u64) (.pair (.int .u64) .unit)) si (fun _ r K=>K [.aj (.pair (.int .u64) (.pair (.int .u64) .unit)) r []] none))
theorem o84:aP Tryz.prog mR:=dv Ie Tryz.f75 (fun R kk x0 x1 K=>RA x0 x1 (fun a0=>K [.aj (.pair (.int .u64) (.pair (.int .u64) .unit)) a0 []] none)) o83 (ek _ _ _ _) Tryz.func75 (by kernel_rfl) rfl (fun _ _ _ _ _ _ h=>h _ _) (fun _ _ _ _ _=>by kernel_rfl) fun R kk e x0 x1 K=>by
 simp only[si,RA,aD]
def vP:Env:=b9.env (fun i=>bif Nat.beq i 2 then [3,4,5,26,27,28] else bif Nat.beq i 12 then [3,4,5,13,46,48,49,50] else bif Nat.beq i 24 then [4,5,16,17,77,78,79] else []) (fun i=>bif Nat.beq i 2 then [3,4,5,6,7,8] else bif Nat.beq i 12 then [3,4,5,6,7,8] else bif Nat.beq i 24 then [6,7,8] else []) [] [cD,aK,aK]
def Wc(a:og)(b c:Int)(d:ax)(e f:af):Option R:=aB (ev vP (mR R) kk (sub [1,0,1,0,0] (cd Tryz.f56))) [3,4,5,26,27,28] [3,4,5,6,7,8] k ⟨uS 3 ([.ptr 4 cD []]::[.ptr 5 aK []]::[.ptr 6 aK []]::uS 20 ([.aj (.sl 24 aK) a [[]]]::[tI b]::[tI c]::uS 92 [])),nS 4 ((some ⟨cD,d,[]⟩)::(some ⟨aK,e,[]⟩)::(some ⟨aK,f,[]⟩)::nS 115 [])⟩ J
def zgu(a b c:Int)(d:ax)(e f:af):State:=⟨uS 3 ([.ptr 4 cD []]::[.ptr 5 aK []]::[.ptr 6 aK []]::[tI a]::[tI b]::[tI c]::uS 112 []),nS 4 ((some ⟨cD,d,[]⟩)::(some ⟨aK,e,[]⟩)::(some ⟨aK,f,[]⟩)::nS 115 [])⟩
def zgv(a:ax)(b c:af):State:=⟨uS 3 ([.ptr 4 cD []]::[.ptr 5 aK []]::[.ptr 6 aK []]::uS 115 []),nS 4 ((some ⟨cD,a,[]⟩)::(some ⟨aK,b,[]⟩)::(some ⟨aK,c,[]⟩)::nS 115 [])⟩
def Dh:KX R:=(zk 0 (aU vP (mR R) kk (sub [1,1] (cd Tryz.f56)) (aT vP Tryz.f56.results.toList none K)))
def Wd(a:aO)(b c:Int)(d:ax)(e f:af)(g:ij):Option R:=aB (ev vP (mR R) kk (sub [1,1,1,1,0,1,0,0] (cd Tryz.f56))) [3,4,5,13,46,48,49,50] [3,4,5,6,7,8] k ⟨uS 3 ([.ptr 4 cD []]::[.ptr 5 aK []]::[.ptr 6 aK []]::uS 7 ([.ptr 47 (.aJ .mp .str .bool) []]::uS 32 ([.ptr 47 (.aJ .mp .str .bool) []]::uS 1 ([.aj (.sl 109 (.pair .str (.pair .str .unit))) a []]::[tI b]::[tI c]::uS 70 [])))),nS 4 ((some ⟨cD,d,[]⟩)::(some ⟨aK,e,[]⟩)::(some ⟨aK,f,[]⟩)::nS 40 ((some ⟨(.aJ .mp .str .bool),g,[]⟩)::nS 74 []))⟩ J
def zgw(a b c:Int)(d:ax)(e f:af):State:=⟨uS 3 ([.ptr 4 cD []]::[.ptr 5 aK []]::[.ptr 6 aK []]::[tI a]::[tI b]::[tI c]::uS 112 []),nS 4 ((some ⟨cD,d,[]⟩)::(some ⟨aK,e,[]⟩)::(some ⟨aK,f,[]⟩)::nS 115 [])⟩
def zgx(a:ax)(b c:af):State:=⟨uS 3 ([.ptr 4 cD []]::[.ptr 5 aK []]::[.ptr 6 aK []]::uS 115 []),nS 4 ((some ⟨cD,a,[]⟩)::(some ⟨aK,b,[]⟩)::(some ⟨aK,c,[]⟩)::nS 115 [])⟩
def Di:KX R:=(zk 2 (aU vP (mR R) kk (sub [1,1,1,1,1] (cd Tryz.f56)) (aT vP Tryz.f56.results.toList none K)))
def We(a:bR)(b c:Int)(d e:af)(f g:aR):Option R:=aB (ev vP (mR R) kk (sub [1,1,1,1,1,1,1,0,1,0,0] (cd Tryz.f56))) [4,5,16,17,77,78,79] [6,7,8] k ⟨uS 4 ([.ptr 5 aK []]::[.ptr 6 aK []]::uS 10 ([.ptr 17 (.pair (.int .u64) (.pair (.int .u64) .unit)) []]::[.ptr 18 (.pair (.int .u64) (.pair (.int .u64) .unit)) []]::uS 59 ([.aj (.sl 102 cB) a []]::[tI b]::[tI c]::uS 41 []))),nS 5 ((some ⟨aK,d,[]⟩)::(some ⟨aK,e,[]⟩)::nS 10 ((some ⟨(.pair (.int .u64) (.pair (.int .u64) .unit)),f,[]⟩)::(some ⟨(.pair (.int .u64) (.pair (.int .u64) .unit)),g,[]⟩)::nS 103 []))⟩ J
def zgy(a b c:Int):State:=⟨uS 6 ([tI a]::[tI b]::[tI c]::uS 112 []),nS 122 []⟩
def zgz:State:=⟨uS 121 [],nS 122 []⟩
def Dj:KX R:=(zk 5 (aU vP (mR R) kk (sub [1,1,1,1,1,1,1,1] (cd Tryz.f56)) (aT vP Tryz.f56.results.toList none K)))
theorem amc(a:og)(b c:Int)(d:ax)(e f:af):Wc R kk (k+1) J a b c d e f=
 Wh a b c d e f (fun a0 a1 a2 a3 a4 a5=>J .ret (zgu a0 a1 a2 a3 a4 a5)) (Wc R kk k J) (fun a0 a1 a2=>J (.exit 0) (zgv a0 a1 a2)):=by kernel_rfl
theorem afL(a b c:Int)(d:ax)(e f:af):Dh R kk K .ret (zgu a b c d e f)=
 Dk a b c d e f (fun a0 a1 a2=>K [tI a0,tI a1,tI a2] none):=by kernel_rfl
theorem afM(a:ax)(b c:af):Dh R kk K (.exit 0) (zgv a b c)=
 Wi a b c (fun a0 a1 a2=>K [tI a0,tI a1,tI a2] none) (Wd R kk kk (Di R kk K)):=by kernel_rfl
theorem amd(a:aO)(b c:Int)(d:ax)(e f:af)(g:ij):Wd R kk (k+1) J a b c d e f g=
 Dl a b c d e f g (fun a0 a1 a2 a3 a4 a5=>J .ret (zgw a0 a1 a2 a3 a4 a5)) (Wd R kk k J) (fun a0 a1 a2=>J (.exit 2) (zgx a0 a1 a2)):=by kernel_rfl
theorem afN(a b c:Int)(d:ax)(e f:af):Di R kk K .ret (zgw a b c d e f)=
 Dm a b c d e f (fun a0 a1 a2=>K [tI a0,tI a1,tI a2] none):=by kernel_rfl
theorem afO(a:ax)(b c:af):Di R kk K (.exit 2) (zgx a b c)=
 Wj a b c (fun a0 a1 a2=>K [tI a0,tI a1,tI a2] none) (We R kk kk (Dj R kk K)):=by kernel_rfl
end
end Go.Proofs.YtpjkbbihjoflnaaGreatDoor

