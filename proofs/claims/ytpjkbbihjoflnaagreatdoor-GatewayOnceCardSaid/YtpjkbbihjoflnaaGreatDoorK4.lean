/- No condition. -/
import Derived.Test.YtpjkbbihjoflnaaGreatDoorK3
import Derived.Test.YtpjkbbihjoflnaaGreatDoorProg
set_option linter.unusedVariables false
set_option linter.unusedSimpArgs false
set_option maxRecDepth 100000
namespace bp
open Go.IntKind renaming wrap->zW,i64->zI,u8->zU
open Go Go.Ref
theorem A3{s:zf}:∀{l:List bg} {last:Int},ss s l last=none↔(∀v∈l,bn s v.1=true/\bJ (aY s v.1) v.2.1=0)/\jK l/\∀v∈l,last<v.1
 | [],last=>by simp [ss,jK]
 |x::r,last=>by
  rw[ss]
  by_cases h1:x.1<=last
  ·rw[zT h1,zC]
   refine⟨fun h=>(by cases h),fun h=> ?_⟩
   have:=h.2.2 x List.mem_cons_self
   omega
  rw[zF h1,zD]
  cases h2:bn s x.1 with
  |false=>
   refine⟨fun h=>(by cases h),fun h=> ?_⟩
   have:=(h.1 x List.mem_cons_self).1
   rw[h2] at this;cases this
  |true=>
   rw[Bool.not_true,zD]
   by_cases h3:bJ (aY s x.1) x.2.1=0
   ·rw[zT h3,Bool.not_true,zD,A3]
    constructor
    ·rintro⟨g1,g2,g3⟩
     refine⟨fun v hv=> ?_,List.pairwise_cons.2 ⟨g3,g2⟩,fun v hv=> ?_⟩
     ·rcases List.mem_cons.1 hv with rfl|hv
      ·exact⟨h2,h3⟩
      ·exact g1 v hv
     ·rcases List.mem_cons.1 hv with rfl|hv
      ·omega
      ·have:=g3 v hv;omega
    ·rintro⟨g1,g2,g3⟩
     have g2:=List.pairwise_cons.1 g2
     exact⟨fun v hv=>g1 v (List.mem_cons_of_mem _ hv),g2.2,g2.1⟩
   ·rw[zF h3,Bool.not_false,zC]
    refine⟨fun h=>(by cases h),fun h=> ?_⟩
    exact absurd (h.1 x List.mem_cons_self).2 h3
theorem zi7{s:zf}:∀{l:List bg} {last:Int} {f:bN},ss s l last=some f->f.1≠0
 | [],last,f,h=>by cases h
 |x::r,last,f,h=>by
  rw[ss] at h
  cases h1:decide (x.1<=last) with
  |true=>rw[h1] at h;cases h;exact(by decide:(11:Int)≠0)
  |false=>
   rw[h1,zD] at h
   cases h2:bn s x.1 with
   |false=>rw[h2] at h;cases h;exact(by decide:(9:Int)≠0)
   |true=>
    rw[h2,Bool.not_true,zD] at h
    by_cases h3:bJ (aY s x.1) x.2.1=0
    ·rw[zT h3,Bool.not_true,zD] at h
     exact zi7 h
    ·rw[zF h3,Bool.not_false,zC] at h
     cases h
     exact h3
structure gR(s:zf)(m:bK):Prop where
 iH:(hP s).1=0
 right:fQ m.1=true
 ver:gB m.1=s.2.1
 jD:ss s m.2.1 0=none
theorem PY{s:zf}{m:bK}:(gK s m).1=0↔gR s m:=by
 unfold gK
 by_cases h1:(hP s).1=0
 ·rw[zT h1,Bool.not_true,zD]
  cases h2:fQ m.1 with
  |false=>exact⟨fun h=>absurd h (show¬(7:Int)=0 by decide),fun h=>by have:=h.right;rw[h2] at this;cases this⟩
  |true=>
   rw[Bool.not_true,zD]
   by_cases h3:gB m.1=s.2.1
   ·rw[zT h3,Bool.not_true,zD]
    cases h4:ss s m.2.1 0 with
    |none=>exact⟨fun _=>⟨h1,h2,h3,h4⟩,fun _=>rfl⟩
    |some f=>exact⟨fun h=>absurd h (zi7 h4),fun h=>by have:=h.jD;rw[h4] at this;cases this⟩
   ·rw[zF h3]
    exact⟨fun h=>absurd h (show¬(7:Int)=0 by decide),fun h=>absurd h.ver h3⟩
 ·rw[zF h1]
  exact⟨fun h=>absurd h (show¬(1:Int)=0 by decide),fun h=>absurd h.iH h1⟩
theorem gR.eq{s:zf}{m:bK}(h:gR s m):gK s m=jb:=by
 unfold gK
 rw[zT h.iH,h.right,zT h.ver,h.jD];rfl
theorem ET{s:zf}(h:iN s){no:Int}(hh:bn s no=true):2<=no/\no<=128:=by
 have:=(zoy (SP h hh)).1
 rw[(S6 hh).2] at this
 exact this
theorem PK{q:aW}{b:zf}{t:ByteArray}(h:(gC q b t).2=0)(hz:(gC q b t).1.1≠0):q.1≠2/\(gC q b t).1.1=q.2.2.1:=by
 unfold gC at h hz⊢
 by_cases k1:q.1=1
 ·rw[zT k1,zC];exact⟨by omega,rfl⟩
 rw[zF k1,zD] at h hz⊢
 by_cases k2:q.1=2
 ·rw[zT k2,zC] at hz;exact absurd rfl hz
 rw[zF k2,zD] at h hz⊢
 refine⟨k2,?_⟩
 by_cases k3:q.1=3
 ·rw[zT k3,zC]
 rw[zF k3,zD] at h hz⊢
 by_cases k4:q.1=4
 ·rw[zT k4,zC] at h hz⊢
  cases hs:bn b q.2.2.1 with
  |false=>rw[hs] at h;cases h
  |true=>
   rw[hs] at h
   rw[Bool.not_true,zD] at h⊢
   cases hp:(fJ t (aY b q.2.2.1).2.2.2.1).2 with
   |false=>rw[hp] at h;cases h
   |true=>rfl
 rw[zF k4,zD] at h hz⊢
 by_cases k5:q.1=5
 ·rw[zT k5,zC] at h hz⊢
  cases hp:(zw q.2.2.2.2.1 t).2 with
  |false=>rw[hp] at h;cases h
  |true=>rfl
 ·rw[zF k5,zD] at hz;exact absurd rfl hz
theorem Gz{l:List bg}{v:bg}:v∈cz l↔v∈l/\v.1≠0:=by
 unfold cz
 rw[List.mem_filter]
 simp
section
variable {m:Map} {a b:zf}
theorem eO.fh(h:eO m a b):m.2.1.Pairwise fun x y=>kD x y=false:=(zij h.uP).1
theorem eO.okA(h:eO m a b):iN a:=(xX a).1 h.sa
theorem eO.okB(h:eO m a b):iN b:=(xX b).1 h.sb
theorem eO.to(h:eO m a b){r:aW}(hr:r∈m.2.1)(k:r.1≠2):bn b r.2.2.1=true:=(zi4 (z85 (h.rules r hr)).2.1).2.2.2 k
theorem eO.Sj(h:eO m a b){r:aW}(hr:r∈m.2.1)(k:r.1≠2):r.2.2.1≠0:=by
 have:=ET h.okB (h.to hr k)
 omega
theorem NI(h:eO m a b):∀{l ys:List bg},jK l->kB m b l= .inr ys->jR (cz ys)
 | [],ys,_,hy=>by cases hy;exact List.Pairwise.nil
 |v::r,ys,hr,hy=>by
  rw[kB] at hy
  have hr:=List.pairwise_cons.1 hr
  cases hf:eZ m v.1 with
  |none=>rw[hf] at hy;cases hy
  |some q=>
   rw[hf] at hy
   dsimp only at hy
   cases hz:decide ((gC q b v.2.1).2=0) with
   |false=>rw[hz] at hy;cases hy
   |true=>
    rw[hz,Bool.not_true,zD] at hy
    cases hv:kB m b r with
    |inl f=>rw[hv] at hy;cases hy
    |inr zs=>
     rw[hv] at hy
     cases hy
     have ih:=NI h hr.2 hv
     unfold cz at ih⊢
     rw[List.filter_cons]
     split
     ·rename_i ZB
      have ZB:(gC q b v.2.1).1.1≠0:=by simpa using ZB
      refine List.pairwise_cons.2 ⟨fun z hzm=> ?_,ih⟩
      obtain⟨z1,z2⟩:=Gz.1 hzm
      obtain⟨w,hw,q',hf',h0',rfl⟩:=Py hv z z1
      obtain⟨a1,a2⟩:=PK (of_decide_eq_true hz) ZB
      obtain⟨b1,b2⟩:=PK h0' z2
      rw[a2,b2]
      obtain⟨qm,qf⟩:=Gu hf
      obtain⟨qm',qf'⟩:=Gu hf'
      have ar:=hr.1 w hw
      have bM:q≠q':=fun e=>by subst e;omega
      exact ziz (Nt h.fh q qm q' qm' bM) (h.Sj qm a1)
     ·exact ih
theorem Su{l:List aW}{v:bg}:v∈jQ l↔∃r∈l,r.1=3/\v=(r.2.2.1,r.2.2.2.1,()):=by
 unfold jQ
 rw[List.mem_map]
 constructor
 ·rintro⟨r,hr,rfl⟩
  rw[List.mem_filter] at hr
  exact⟨r,hr.1,of_decide_eq_true hr.2,rfl⟩
 ·rintro⟨r,hr,k,rfl⟩
  exact⟨r,List.mem_filter.2 ⟨hr,zT k⟩,rfl⟩
theorem ab0(h:eO m a b):jR (jQ m.2.1):=by
 unfold jQ
 refine List.pairwise_map.2 ?_
 refine List.Pairwise.imp_of_mem ?_ (h.fh.filter _)
 intro x y hx hy AL
 have hx:=List.mem_filter.1 hx
 have k:x.1=3:=of_decide_eq_true hx.2
 exact ziz AL (h.Sj hx.1 (by omega))
theorem acu(h:eO m a b){l ys:List bg}(hl:∀v∈l,bn a v.1=true)(hy:kB m b l= .inr ys):∀c∈jQ m.2.1,∀y∈cz ys,c.1≠y.1:=by
 intro c hc y hym
 obtain⟨r,hr,k,rfl⟩:=Su.1 hc
 obtain⟨y1,y2⟩:=Gz.1 hym
 obtain⟨w,hw,q,hf,h0,rfl⟩:=Py hy y y1
 obtain⟨b1,b2⟩:=PK h0 y2
 rw[b2]
 obtain⟨qm,qf⟩:=Gu hf
 have hwr:=ET h.okA (hl w hw)
 have hz:=(zi4 (z85 (h.rules r hr)).2.1).1 k
 have bM:r≠q:=fun e=>by subst e;omega
 exact ziz (Nt h.fh r hr q qm bM) (h.Sj hr (by omega))
theorem Lf(h:eO m a b){l ys:List bg}(hr:jK l)(hl:∀v∈l,bn a v.1=true)(hy:kB m b l= .inr ys):jR (jQ m.2.1++cz ys):=
 List.pairwise_append.2 ⟨ab0 h,NI h hr hy,acu h hl hy⟩
theorem Lg(h:eO m a b){l ys:List bg}(hy:kB m b l= .inr ys):∀v∈jQ m.2.1++cz ys,bn b v.1=true:=by
 intro v hv
 rcases List.mem_append.1 hv with hv|hv
 ·obtain⟨r,hr,k,rfl⟩:=Su.1 hv
  exact h.to hr (by omega)
 ·obtain⟨y1,y2⟩:=Gz.1 hv
  obtain⟨w,hw,q,hf,h0,rfl⟩:=Py hy v y1
  obtain⟨b1,b2⟩:=PK h0 y2
  rw[b2]
  exact h.to (Gu hf).1 b1
end
def nL(vs:List bg):Nat->Nat->List bg
 |0,_=>[]
 |n+1,k=>(vs.filter fun v=>decide (v.1=(k:Int)))++nL vs n (k+1)
theorem Sr{vs:List bg}{v:bg}:∀{n k:Nat},v∈nL vs n k↔v∈vs/\(k:Int)<=v.1/\v.1<((k+n:Nat):Int)
 |0,k=>by simp only[nL,List.not_mem_nil,false_iff];omega
 |n+1,k=>by
  rw[nL,List.mem_append,List.mem_filter,decide_eq_true_eq,Sr]
  constructor
  ·rintro(⟨h1,h2⟩|⟨h1,h2,h3⟩)
   ·exact⟨h1,by omega,by omega⟩
   ·exact⟨h1,by omega,by omega⟩
  ·rintro⟨h1,h2,h3⟩
   by_cases e:v.1=(k:Int)
   ·exact .inl ⟨h1,e⟩
   ·exact .inr ⟨h1,by omega,by omega⟩
theorem zdk{vs:List bg}(h:jR (cz vs)):∀(n k:Nat),1<=k->jK (nL vs n k)
 |0,k,_=>List.Pairwise.nil
 |n+1,k,hk=>by
  rw[nL]
  refine List.pairwise_append.2 ⟨?_,zdk h n (k+1) (by omega),fun x hx y hy=> ?_⟩
  ·have e:(vs.filter fun v=>decide (v.1=(k:Int)))=(cz vs).filter fun v=>decide (v.1=(k:Int)):=by
    unfold cz
    rw[List.filter_filter]
    congr 1
    funext v
    by_cases hv:v.1=(k:Int)
    ·rw[zT hv,zF (by omega:¬v.1=0)];rfl
    ·rw[zF hv];rfl
   rw[e]
   refine List.Pairwise.imp_of_mem ?_ (h.filter _)
   intro x y hx hy bM
   have h1:=of_decide_eq_true (List.mem_filter.1 hx).2
   have h2:=of_decide_eq_true (List.mem_filter.1 hy).2
   omega
  ·have h1:=of_decide_eq_true (List.mem_filter.1 hx).2
   have h2:=(Sr.1 hy).2.1
   omega
def Yy(m:Map)(a b:zf)(x:bK):bK×bN:=
 bif !decide ((dB m a b).1=0) then(dw,(1,-1,())) else bif !decide ((gK a x).1=0) then(dw,gK a x) else bif !(zw m.1 x.1).2 then(dw,(7,0,()))
 else match kB m b x.2.1 with
  | .inl f=>(dw,f)
  | .inr ys=>(((zw m.1 x.1).1,nL (ys++jQ m.2.1) 127 2,()),jb)
theorem ziu(l r:List bg):cz (l++r)=cz l++cz r:=by unfold cz;rw[List.filter_append]
theorem ziv{m:Map}{a b:zf}(h:eO m a b):cz (jQ m.2.1)=jQ m.2.1:=by
 unfold cz
 refine List.filter_eq_self.2 fun v hv=> ?_
 obtain⟨r,hr,k,rfl⟩:=Su.1 hv
 have:=h.Sj hr (by omega)
 simpa using this
theorem zuu{l r:List bg}(h:jR (l++r)):jR (r++l):=by
 obtain⟨h1,h2,h3⟩:=List.pairwise_append.1 h
 exact List.pairwise_append.2 ⟨h2,h1,fun x hx y hy e=>h3 y hy x hx e.symm⟩
theorem afV{m:Map}{a b:zf}(h:eO m a b){l ys:List bg}(hr:jK l)(hl:∀v∈l,bn a v.1=true)(hy:kB m b l= .inr ys)(t:ByteArray):
 sD (cz ys) (rP m.2.1 (t,[],()))=(t,nL (ys++jQ m.2.1) 127 2,()):=by
 rw[zap,<-ze4]
 have Ap:=Lf h hr hl hy
 have hs:cz (ys++jQ m.2.1)=cz ys++jQ m.2.1:=by rw[ziu,ziv h]
 refine amM.2 ⟨zot _ _,?_⟩
 refine OK (zw0 _ List.Pairwise.nil) (zdk (by rw[hs];exact zuu Ap) 127 2 (by omega)) fun v=> ?_
 rw[zvz _ _ Ap (fun _ _ w hw=>by cases hw) v,Sr]
 constructor
 ·rintro(hv|hv)
  ·cases hv
  ·have hb:=ET h.okB (Lg h hy v hv)
   refine⟨?_,by omega,by omega⟩
   rcases List.mem_append.1 hv with hv|hv
   ·exact List.mem_append_right _ hv
   ·exact List.mem_append_left _ (Gz.1 hv).1
 ·rintro⟨hv,h1,h2⟩
  right
  rcases List.mem_append.1 hv with hv|hv
  ·exact List.mem_append_right _ (Gz.2 ⟨hv,by omega⟩)
  ·exact List.mem_append_left _ hv
theorem zw9(m:Map)(a b:zf)(x:bK):nD m a b x=Yy m a b x:=by
 unfold nD Yy
 by_cases h1:(dB m a b).1=0
 ·rw[zT h1,Bool.not_true,zD,zD]
  by_cases h2:(gK a x).1=0
  ·rw[zT h2,Bool.not_true,zD,zD]
   cases(zw m.1 x.1).2 with
   |false=>rfl
   |true=>
    rw[Bool.not_true,zD,zD]
    obtain⟨g1,g2,g3⟩:=A3.1 (PY.1 h2).jD
    rcases zas m b x.2.1 (rP m.2.1 ((zw m.1 x.1).1,[],())) with⟨f,o,e1,e2⟩|⟨ys,e1,e2⟩
    ·rw[e1,e2]
    ·rw[e1,e2]
     dsimp only
     rw[afV (zqt.1 h1) g2 (fun v hv=>(g1 v hv).1) e2]
  ·rw[zF h2];rfl
 ·rw[zF h1];rfl
end bp

namespace bp
open Go.IntKind renaming wrap->zW,i64->zI,u8->zU
open Go Go.Ref
abbrev K3:Ty:= .pair (.int .i64) (.pair (.int .i64) (.pair (.int .i64) (.pair (.int .i64) (.pair (.int .i64) .unit))))
abbrev amW:Ty:= .pair (.int .i64) (.pair (.int .i64) (.pair (.sl 0 K3) .unit))
abbrev AY:Ty:= .pair .str (.pair .str .unit)
abbrev K2:Ty:= .pair (.int .i64) (.pair (.int .i64) (.pair (.int .i64) (.pair .str (.pair (.sl 0 AY) .unit))))
abbrev K1:Ty:= .pair (.sl 0 AY) (.pair (.sl 0 K2) .unit)
def small(n:Nat)(l:List bD):Bool:=l.all fun p=> !decide ((n:Int)<(p.1.size:Int))&& !decide ((n:Int)<(p.2.1.size:Int))
theorem Nz{n:Nat}{l:List bD}(hn:n<=1200)(h:small n l=true):∀p∈l,p.1.size<=1099511627776/\p.2.1.size<=1099511627776:=fun p hp=>by
 have:=List.all_eq_true.1 h p hp
 simp only[Bool.and_eq_true,Bool.not_eq_true',decide_eq_false_iff_not] at this
 omega
def grR(t:Bool):Option (Sum Bool Unit):=some (bif t then .inr () else .inl true)
theorem Pf:∀(l:List bD) (i:Int),bd (fun i (p:bD) (s:Unit) K=>bif(decide (1200<((p.1).size:Int))) then some (Sum.inl true) else(bif(decide (1200<((p.2.1).size:Int))) then some (Sum.inl true) else K s)) (fun _=>some (Sum.inr ())) l i ()=grR (small 1200 l)
 | [],i=>rfl
 |p::r,i=>by
  simp only[bd,small,List.all_cons]
  by_cases h1:(1200:Int)<(p.1.size:Int)
  ·rw[zT h1,zT (show((1200:Nat):Int)<(p.1.size:Int) from h1)];rfl
  ·rw[zF h1,zF (show¬((1200:Nat):Int)<(p.1.size:Int) from h1)]
   by_cases h2:(1200:Int)<(p.2.1.size:Int)
   ·rw[zT h2,zT (show((1200:Nat):Int)<(p.2.1.size:Int) from h2)];rfl
   ·rw[zF h2,zF (show¬((1200:Nat):Int)<(p.2.1.size:Int) from h2)]
    exact Pf r (i+1)
def yg(r:aW):Bool:=decide ((1200:Int)<(r.2.2.2.1.size:Int))||(decide ((300:Int)<(r.2.2.2.2.1.length:Int))|| !small 1200 r.2.2.2.2.1)
theorem acX(r:aW)(h:r.2.2.2.2.1.length<=maxLen):nX r=some (yg r):=by
 unfold nX Tu yg
 cases decide ((1200:Int)<(r.2.2.2.1.size:Int)) with
 |true=>rfl
 |false=>
  cases decide ((300:Int)<(r.2.2.2.2.1.length:Int)) with
  |true=>rfl
  |false=>
   simp only[zD,Bool.false_or]
   have:=lz jn r.2.2.2.2.1 h (fun i (p:bD) (s:Unit) K=>bif(decide (1200<((p.1).size:Int))) then some (Sum.inl true) else(bif(decide (1200<((p.2.1).size:Int))) then some (Sum.inl true) else K s)) (fun _=>some (Sum.inr ()))
    (fun k i s=>x6 k i r) (fun k i s h0 h1=>by
      show x6 (k+1) i r=_
      conv=>lhs;unfold x6 P6
      rw[zT h1,zC,zn h0 h1,zn h0 h1]
      rfl) (fun k s=>by
      show x6 (k+1) r.2.2.2.2.1.length r=_
      conv=>lhs;unfold x6 P6
      rw[zF (by omega),zD]) ()
   rw[this,Pf]
   unfold grR
   cases small 1200 r.2.2.2.2.1<;>rfl
theorem agt{r:aW}(h:yg r=false):dW r:=by
 unfold yg at h
 simp only[Bool.or_eq_false_iff,decide_eq_false_iff_not,Bool.not_eq_false'] at h
 obtain⟨h1,h2,h3⟩:=h
 exact⟨by omega,by omega,Nz (by omega) h3⟩
theorem Pe(m:Map):∀(l:List bD) (i:Int),bd (fun i (p:bD) (s:Unit) K=>bif(decide (100<((p.1).size:Int))) then some (Sum.inl (true,m)) else(bif(decide (100<((p.2.1).size:Int))) then some (Sum.inl (true,m)) else K s)) (fun _=>some (Sum.inr m)) l i ()=some (bif small 100 l then .inr m else .inl (true,m))
 | [],i=>rfl
 |p::r,i=>by
  simp only[bd,small,List.all_cons]
  by_cases h1:(100:Int)<(p.1.size:Int)
  ·rw[zT h1,zT (show((100:Nat):Int)<(p.1.size:Int) from h1)];rfl
  ·rw[zF h1,zF (show¬((100:Nat):Int)<(p.1.size:Int) from h1)]
   by_cases h2:(100:Int)<(p.2.1.size:Int)
   ·rw[zT h2,zT (show((100:Nat):Int)<(p.2.1.size:Int) from h2)];rfl
   ·rw[zF h2,zF (show¬((100:Nat):Int)<(p.2.1.size:Int) from h2)]
    exact Pe m r (i+1)
theorem Pd:∀(l:List aW) (i:Int),(∀r∈l,r.2.2.2.2.1.length<=maxLen)->bd (fun i (x:aW) (s:Unit) K=>((nX x).bind fun r1=>(bif r1 then some (Sum.inl true) else K s))) (fun _=>some (Sum.inr ())) l i ()=some (bif l.any yg then Sum.inl true else Sum.inr ())
 | [],i,_=>rfl
 |r::l,i,h=>by
  simp only[bd,List.any_cons]
  rw[acX r (h r List.mem_cons_self),Option.bind_some]
  cases yg r with
  |true=>rfl
  |false=>exact Pd l (i+1) fun q hq=>h q (List.mem_cons_of_mem _ hq)
def Bq(m:Map):Bool:=decide ((300:Int)<(m.1.length:Int))||(decide ((300:Int)<(m.2.1.length:Int))||(!small 100 m.1||m.2.1.any yg))
theorem acY(m:Map)(h1:m.1.length<=maxLen)(h2:m.2.1.length<=maxLen)(h3:∀r∈m.2.1,r.2.2.2.2.1.length<=maxLen):lQ m=some (Bq m):=by
 unfold lQ TG Bq
 cases decide ((300:Int)<(m.1.length:Int)) with
 |true=>rfl
 |false=>
  cases decide ((300:Int)<(m.2.1.length:Int)) with
  |true=>rfl
  |false=>
   simp only[zD,Bool.false_or]
   have e1:=lz jn m.1 h1 (fun i (p:bD) (s:Unit) K=>bif(decide (100<((p.1).size:Int))) then some (Sum.inl (true,m)) else(bif(decide (100<((p.2.1).size:Int))) then some (Sum.inl (true,m)) else K s)) (fun _=>some (Sum.inr m))
    (fun k i s=>x7 k i m) (fun k i s h0 h1=>by
      show x7 (k+1) i m=_
      conv=>lhs;unfold x7 Qc
      rw[zT h1,zC,zn h0 h1,zn h0 h1]
      rfl) (fun k s=>by
      show x7 (k+1) m.1.length m=_
      conv=>lhs;unfold x7 Qc
      rw[zF (by omega),zD]) ()
   rw[e1,Pe]
   cases small 100 m.1 with
   |false=>rfl
   |true=>
    simp only[zC,Option.bind_some,Sum.elim_inr,Bool.not_true,Bool.false_or]
    unfold TH
    have e2:=cr gP m.2.1 h2 (fun i (x:aW) (s:Unit) K=>((nX x).bind fun r1=>(bif r1 then some (Sum.inl true) else K s))) (fun _=>some (Sum.inr ()))
     (fun k i s=>Qb k i m) (fun k i s=>rfl) ()
    dsimp only
    rw[e2,Pd _ _ h3]
    cases m.2.1.any yg<;>rfl
theorem LQ{m:Map}(h:Bq m=false):dL m:=by
 unfold Bq at h
 simp only[Bool.or_eq_false_iff,decide_eq_false_iff_not,Bool.not_eq_false'] at h
 obtain⟨h1,h2,h3,h4⟩:=h
 refine⟨⟨by omega,Nz (by omega) h3⟩,by omega,fun r hr=>agt ?_⟩
 cases hg:yg r with
 |false=>rfl
 |true=>rw[List.any_eq_true.2 ⟨r,hr,hg⟩] at h4;cases h4
theorem NH{m:Map}(h:Wf K1 m):lQ m=some (Bq m):=
 acY m h.1.1 h.2.1.1 fun r hr=>(h.2.1.2 r hr).2.2.2.2.1.1
theorem acp{r:aW}{b:zf}{t:ByteArray}(ht:t.size<=1099511627776)(hr:dW r):(gC r b t).1.2.1.size<=1099511627776:=by
 have h0:(bs []).size<=1099511627776:=by decide
 unfold gC
 cases decide (r.1=1) with
 |true=>exact ht
 |false=>
  rw[zD]
  cases decide (r.1=2) with
  |true=>exact h0
  |false=>
   rw[zD]
   cases decide (r.1=3) with
   |true=>exact hr.text
   |false=>
    rw[zD]
    cases decide (r.1=4) with
    |true=>
     rw[zC]
     cases bn b r.2.2.1 with
     |false=>exact h0
     |true=>
      rw[Bool.not_true,zD]
      cases hp:(fJ t (aY b r.2.2.1).2.2.2.1).2 with
      |false=>exact h0
      |true=>
       obtain⟨p1,p2,p3,p4⟩:=OI hp
       show(fJ t (aY b r.2.2.1).2.2.2.1).1.size<=_
       omega
    |false=>
     rw[zD]
     cases decide (r.1=5) with
     |true=>
      rw[zC]
      cases hp:(zw r.2.2.2.2.1 t).2 with
      |false=>exact h0
      |true=>
       obtain⟨p,hm,_,hq⟩:=zde hp
       show(zw r.2.2.2.2.1 t).1.size<=_
       rw[hq]
       exact(hr.fh.sz p hm).2
     |false=>exact h0
theorem zi8{m:Map}{b:zf}:∀{l:List bg} {f:bN},kB m b l= .inl f->f.1≠0
 | [],f,h=>by cases h
 |v::r,f,h=>by
  rw[kB] at h
  cases hf:eZ m v.1 with
  |none=>rw[hf] at h;cases h;exact(by decide:(9:Int)≠0)
  |some q=>
   rw[hf] at h
   dsimp only at h
   by_cases hz:(gC q b v.2.1).2=0
   ·rw[zT hz,Bool.not_true,zD] at h
    cases hr:kB m b r with
    |inl g=>rw[hr] at h;cases h;exact zi8 hr
    |inr ys=>rw[hr] at h;cases h
   ·rw[zF hz,Bool.not_false,zC] at h
    cases h;exact hz
structure cu(m:Map)(a b:zf)(x:bK)(ys:List bg):Prop where
 map:eO m a b
 msg:gR a x
 head:(zw m.1 x.1).2=true
 uT:kB m b x.2.1= .inr ys
theorem zp2(m:Map)(a b:zf)(x:bK):(∃f,f.1≠0/\nD m a b x=(dw,f))\/∃ys,cu m a b x ys/\nD m a b x=(((zw m.1 x.1).1,nL (ys++jQ m.2.1) 127 2,()),jb):=by
 rw[zw9]
 unfold Yy
 by_cases h1:(dB m a b).1=0
 ·rw[zT h1,Bool.not_true,zD]
  by_cases h2:(gK a x).1=0
  ·rw[zT h2,Bool.not_true,zD]
   cases h3:(zw m.1 x.1).2 with
   |false=>exact .inl ⟨_,by decide,rfl⟩
   |true=>
    rw[Bool.not_true,zD]
    cases h4:kB m b x.2.1 with
    |inl f=>exact .inl ⟨f,zi8 h4,rfl⟩
    |inr ys=>exact .inr ⟨ys,⟨zqt.1 h1,PY.1 h2,h3,h4⟩,rfl⟩
  ·rw[zF h2];exact .inl ⟨_,h2,rfl⟩
 ·rw[zF h1];exact .inl ⟨_,by decide,rfl⟩
theorem cu.eq{m:Map}{a b:zf}{x:bK}{ys:List bg}(h:cu m a b x ys):nD m a b x=(((zw m.1 x.1).1,nL (ys++jQ m.2.1) 127 2,()),jb):=by
 rw[zw9]
 unfold Yy
 rw[zT (zqt.2 h.map),Bool.not_true,zD,zT (PY.2 h.msg),Bool.not_true,zD,h.head,h.uT]
 rfl
section
variable {m:Map} {a b:zf} {x:bK} {ys:List bg}
theorem cu.jD(h:cu m a b x ys):(∀v∈x.2.1,bn a v.1=true/\bJ (aY a v.1) v.2.1=0)/\jK x.2.1/\∀v∈x.2.1,0<v.1:=A3.1 h.msg.jD
theorem cu.ris(h:cu m a b x ys):jK (nL (ys++jQ m.2.1) 127 2):=by
 obtain⟨g1,g2,g3⟩:=h.jD
 refine zdk ?_ 127 2 (by omega)
 rw[ziu,ziv h.map]
 exact zuu (Lf h.map g2 (fun v hv=>(g1 v hv).1) h.uT)
theorem cu.mem(h:cu m a b x ys)(v:bg):v∈nL (ys++jQ m.2.1) 127 2↔v∈jQ m.2.1\/(v∈ys/\v.1≠0):=by
 rw[Sr,List.mem_append]
 have hr:=Lg h.map h.uT
 constructor
 ·rintro⟨h1|h1,h2,h3⟩
  ·exact .inr ⟨h1,by omega⟩
  ·exact .inl h1
 ·rintro(h1|⟨h1,h2⟩)
  ·have:=ET h.map.okB (hr v (List.mem_append_left _ h1))
   exact⟨.inr h1,by omega,by omega⟩
  ·have:=ET h.map.okB (hr v (List.mem_append_right _ (Gz.2 ⟨h1,h2⟩)))
   exact⟨.inl h1,by omega,by omega⟩
theorem cu.valid(h:cu m a b x ys)(hm:dL m)(hx:eR x):∀v∈nL (ys++jQ m.2.1) 127 2,bn b v.1=true/\v.2.1.size<=1099511627776/\bJ (aY b v.1) v.2.1=0:=by
 intro v hv
 obtain⟨g1,g2,g3⟩:=h.jD
 rcases(h.mem v).1 hv with hv|⟨hv,hz⟩
 ·obtain⟨r,hr,k,rfl⟩:=Su.1 hv
  have hc:=(z85 (h.map.rules r hr)).2.2.2
  unfold kl at hc
  rw[zF (by omega:¬r.1=1),zT k,zD,zC] at hc
  exact⟨h.map.to hr (by omega),(hm.rules r hr).text,hc⟩
 ·obtain⟨w,hw,q,hf,h0,rfl⟩:=Py h.uT v hv
  obtain⟨b1,b2⟩:=PK h0 hz
  obtain⟨qm,qf⟩:=Gu hf
  have hwt:=hx.si w hw
  have:=(acq (r:=q) (a:=a) (b:=b) hwt (hm.rules q qm) (h.map.rules q qm) h.map.okB (fun _=>by rw[qf];exact(g1 w hw).2)).2 h0
  obtain⟨e1,e2,e3⟩:=this.2 b1
  rw[b2]
  exact⟨e2,acp hwt (hm.rules q qm),e3⟩
theorem ahr{t:ByteArray}{v:Int}(h:iK t v=true):fQ t=true/\gB t=v:=by
 unfold iK at h
 rw[Bool.and_eq_true,decide_eq_true_eq] at h
 refine⟨h.1,?_⟩
 unfold gB
 rw[h.1];exact h.2
theorem cu.uC(h:cu m a b x ys):fQ (zw m.1 x.1).1=true/\gB (zw m.1 x.1).1=b.2.1:=by
 obtain⟨p,hp,_,e⟩:=zde h.head
 have ht:=h.map.typed p hp
 unfold nR at ht
 rw[Bool.and_eq_true,Bool.and_eq_true] at ht
 rw[e]
 exact ahr ht.2.1
theorem cu.out(h:cu m a b x ys)(hm:dL m)(hx:eR x):gR b ((zw m.1 x.1).1,nL (ys++jQ m.2.1) 127 2,()):=by
 have hv:=h.valid hm hx
 refine⟨h.map.sb,h.uC.1,h.uC.2,A3.2 ⟨fun v hm=>⟨(hv v hm).1,(hv v hm).2.2⟩,h.ris,fun v hm=> ?_⟩⟩
 have:=ET h.map.okB (hv v hm).1
 omega
end
theorem DA:∀{l:List bg} {lo:Int},jK l->(∀v∈l,lo<v.1/\v.1<=128)->(l.length:Int)<=max 0 (128-lo)
 | [],lo,_,_=>by simp;omega
 |x::r,lo,h,hr=>by
  have h:=List.pairwise_cons.1 h
  have hx:=hr x List.mem_cons_self
  have:=DA (l:=r) (lo:=x.1) h.2 (fun v hv=>⟨h.1 v hv,(hr v (List.mem_cons_of_mem _ hv)).2⟩)
  simp only[List.length_cons]
  omega
theorem cu.ok{m:Map}{a b:zf}{x:bK}{ys:List bg}(h:cu m a b x ys)(hm:dL m)(hx:eR x):eR ((zw m.1 x.1).1,nL (ys++jQ m.2.1) 127 2,()):=by
 have hv:=h.valid hm hx
 refine⟨?_,?_,fun v ji=>(hv v ji).2.1⟩
 ·have:=(oO.1 h.uC.1).1
  show(zw m.1 x.1).1.size<=_
  omega
 ·have:=DA (lo:=0) h.ris (fun v ji=>by have:=ET h.map.okB (hv v ji).1;omega)
  show(nL (ys++jQ m.2.1) 127 2).length<=_
  omega
def JL(m:Map)(b:zf)(v:bg):Prop:=∃q,eZ m v.1=some q/\(gC q b v.2.1).2=0
theorem Sv{m:Map}{b:zf}:∀{l:List bg},(∃ys,kB m b l= .inr ys)↔∀v∈l,JL m b v
 | []=>⟨fun _ v hv=>(by cases hv),fun _=>⟨[],rfl⟩⟩
 |v::r=>by
  rw[kB]
  constructor
  ·rintro⟨ys,h⟩ w hw
   cases hf:eZ m v.1 with
   |none=>rw[hf] at h;cases h
   |some q=>
    rw[hf] at h
    dsimp only at h
    cases hz:decide ((gC q b v.2.1).2=0) with
    |false=>rw[hz] at h;cases h
    |true=>
     rw[hz,Bool.not_true,zD] at h
     rcases List.mem_cons.1 hw with rfl|hw
     ·exact⟨q,hf,of_decide_eq_true hz⟩
     ·cases hr:kB m b r with
      |inl g=>rw[hr] at h;cases h
      |inr zs=>exact Sv.1 ⟨zs,hr⟩ w hw
  ·intro h
   obtain⟨q,hf,hz⟩:=h v List.mem_cons_self
   obtain⟨zs,hr⟩:=Sv.2 fun w hw=>h w (List.mem_cons_of_mem _ hw)
   rw[hf,hr]
   dsimp only
   rw[zT hz]
   exact⟨_,rfl⟩
theorem cu.part{m:Map}{a b:zf}{x:bK}{ys:List bg}(h:cu m a b x ys){l:List bg}(hl:List.Sublist l x.2.1):∃zs,cu m a b (x.1,l,()) zs:=by
 obtain⟨g1,g2,g3⟩:=h.jD
 obtain⟨zs,hz⟩:=Sv.2 fun v hv=>Sv.1 ⟨ys,h.uT⟩ v (hl.subset hv)
 exact⟨zs,h.map,⟨h.msg.iH,h.msg.right,h.msg.ver,A3.2 ⟨fun v hv=>g1 v (hl.subset hv),g2.sublist hl,fun v hv=>g3 v (hl.subset hv)⟩⟩,h.head,hz⟩
end bp

namespace bp
open Go.IntKind renaming wrap->zW,i64->zI,u8->zU
open Go Go.Ref
def hM(ae:Int)(m:ByteArray):ByteArray:=if ae=1 then m else(qE m).1
def mZ(s:zf):List bg->ByteArray
 | []=>bs []
 |v::r=>(Bh s.1 (aY s v.1) v.2.1).1++mZ s r
def iV(m:bK):List Int:=m.2.1.map fun v=>v.1
def fG(s:zf)(m:bK):ByteArray:=hM s.1 m.1++(fV s.1 (dD (iV m)) (dE (iV m))).1++mZ s m.2.1
theorem agG(m:bK)(h:m.2.1.length<=1000000):s4 m=some ((dD (iV m):Int),(dE (iV m):Int),()):=by
 unfold s4 Ur
 dsimp only
 have key:∀(l:List bg) (i:Int) (p:List Int),bd (fun i (x:bg) (b:vK) K=>(yt b x.1).bind fun r1=>K r1) (fun b=>some (((0:Int),(0:Int),()),b)) l i ((dD p:Int),(dE p:Int),())=some (((0:Int),(0:Int),()),((dD (p++l.map fun v=>v.1):Int),(dE (p++l.map fun v=>v.1):Int),())):=by
  intro l
  induction l with
  |nil=>intro i p;rw[List.map_nil,List.append_nil];rfl
  |cons x r ih=>
   intro i p
   rw[bd,Od _ _ (sw p) (sA p),zc]
   have e1:dD p|||iO x.1=dD (p++ [x.1]):=by unfold dD;rw[List.foldl_append];rfl
   have e2:dE p|||iP x.1=dE (p++ [x.1]):=by unfold dE;rw[List.foldl_append];rfl
   rw[e1,e2]
   dsimp only
   rw[ih (i+1) (p++ [x.1]),List.map_cons,List.append_assoc];rfl
 have:=cr nA m.2.1 (by rw[zh];omega) (fun i (x:bg) (b:vK) K=>(yt b x.1).bind fun r1=>K r1) (fun b=>some (((0:Int),(0:Int),()),b)) (fun k i b=>Qn k m.2.1 (m.2.1.length:Int) i ((0:Int),(0:Int),()) b) (fun k i b=>rfl) ((0:Int),(0:Int),())
 rw[this]
 have k2:=key m.2.1 0 []
 rw[show dD []=0 from rfl,show dE []=0 from rfl] at k2
 rw[show((0:Nat):Int)=0 from rfl] at k2
 rw[k2];rfl
theorem ahn(ae:Int)(m:ByteArray):(hM ae m).size<=m.size+500:=by
 unfold hM
 split
 ·omega
 ·have:=zhn m;omega
theorem ac9(ae:Int)(h l:Nat):(fV ae h l).1.size<=32:=by
 have hz:ib ae<=16:=by unfold ib;split<;>omega
 unfold fV
 split
 ·dsimp only
  split
  ·rw[zi3];omega
  ·rw[Bc,zi3,zi3];omega
 ·exact Nat.zero_le _
theorem abX(ae:Int)(s:Spec)(t:ByteArray):(Bh ae s t).1.size<=2*t.size+1000:=by
 unfold Bh
 split
 ·exact Nat.zero_le _
 ·split
  ·exact Nat.zero_le _
  ·dsimp only
   rw[Bc]
   have:=Mh ae s.2.2.1 t.size
   have:=Lr (de ae s.2.1) t
   omega
structure im(m:bK):Prop where
 uC:m.1.size<=1000
 len:m.2.1.length<=1000
 si:∀v∈m.2.1,v.2.1.size<=1000
theorem im.ok{m:bK}(h:im m):eR m:=⟨by have:=h.uC;omega,by have:=h.len;omega,fun v hv=>by have:=h.si v hv;omega⟩
theorem zvv{s:zf}{m:bK}(hm:eR m)(h:gR s m):im m:=by
 have ho:=(xX s).1 h.iH
 obtain⟨f1,f2,f3⟩:=A3.1 h.jD
 refine⟨by have:=(oO.1 h.right).1;omega,?_,fun v hv=> ?_⟩
 ·have:=DA (lo:=0) f2 (fun v hv=>by
   have:=Tb (SP ho (f1 v hv).1)
   have e:=(S6 (f1 v hv).1).2
   rw[e] at this
   exact⟨by omega,by omega⟩)
  omega
 ·obtain⟨v1,v2,v3,_,_⟩:=(P1 _ _ (hm.si v hv)).1 (f1 v hv).2
  have:=V9 v1
  omega
theorem DF{x o:ByteArray}(h:o.size+x.size<=140737488355328):jW x o=some (o++x):=by
 unfold jW VD Sl
 rw[zT h,zC,zc]
theorem MY(s:zf)(hs:s.2.2.1.length<=maxLen)(f:bN):∀(l:List bg) (i:Int) (o:ByteArray),(∀v∈l,v.2.1.size<=1000)->o.size+3000*l.length<=100000000->
 bd (fun i (x:bg) (o:ByteArray) K=>(fR s x.1).bind fun r7=>(Bw s.1 r7.1 x.2.1).bind fun r8=>(jW r8.1 o).bind fun r9=>K r9) (fun o=>some (f,o)) l i o=some (f,o++mZ s l)
 | [],i,o,_,_=>by rw[mZ,Oh];rfl
 |x::r,i,o,h,ho=>by
  have hx:=h x List.mem_cons_self
  have hc:=abX s.1 (aY s x.1) x.2.1
  rw[List.length_cons] at ho
  rw[bd,Ba s _ hs,zc,adb _ _ _ (by omega),zc]
  dsimp only
  rw[DF (by omega),zc]
  rw[MY s hs f r (i+1) _ (fun v hv=>h v (List.mem_cons_of_mem _ hv)) (by rw[Bc];omega),mZ,ByteArray.append_assoc]
theorem akH(ae:Int)(m:ByteArray)(hm:fQ m=true)(hs:ae=1\/ae=2):∃k,tD ae m=some (hM ae m,k):=by
 have h4:=(oO.1 hm).1
 unfold tD VE hM
 rw[zax m (by rw[zh];omega),zc,hm,Bool.not_true,zD]
 rcases hs with rfl|rfl
 ·exact⟨true,rfl⟩
 ·rw[zF (by decide),zD,zT rfl,zC,zhm m (by rw[zh];omega),zc,if_neg (by decide)]
  exact⟨_,rfl⟩
def qz(s:zf)(m:bK):ByteArray×bN:=if(gK s m).1=0 then(fG s m,jb) else(bs [],gK s m)
theorem Ld(s:zf)(m:bK)(hs:s.2.2.1.length<=maxLen)(h:eR m):n7 s m=some (qz s m):=by
 unfold n7 VC qz
 rw[zoq s m hs h,zc]
 by_cases h0:(gK s m).1=0
 case neg=>rw[zF h0,if_neg h0];rfl
 have hm:=PY.1 h0
 have Gf:=zvv h hm
 have ho:=(xX s).1 hm.iH
 obtain⟨k,hk⟩:=akH s.1 m.1 hm.right ho.1
 have ht:=ahn s.1 m.1
 have hb:=ac9 s.1 (dD (iV m)) (dE (iV m))
 have:=Gf.uC
 have:=Gf.len
 rw[zT h0,Bool.not_true,zD,if_pos h0,hk,zc,agG m (by omega)]
 have w1:jW (hM s.1 m.1) (bs [])=some (hM s.1 m.1):=by
  rw[DF (by show 0+_<=_;omega),EE]
 have w2:jW (fV s.1 (dD (iV m)) (dE (iV m))).1 (hM s.1 m.1)=some (hM s.1 m.1++(fV s.1 (dD (iV m)) (dE (iV m))).1):=DF (by omega)
 dsimp only
 rw[w1,zc,zc,ajz _ _ _ (sw _) (sA _),zc,w2,zc]
 have hl:=cr nA m.2.1 (by rw[zh];omega) (fun i (x:bg) (o:ByteArray) K=>(fR s x.1).bind fun r7=>(Bw s.1 r7.1 x.2.1).bind fun r8=>(jW r8.1 o).bind fun r9=>K r9) (fun o=>some (jb,o)) (fun k i o=>QC k m.2.1 (m.2.1.length:Int) i s jb o) (fun k i o=>rfl) (hM s.1 m.1++(fV s.1 (dD (iV m)) (dE (iV m))).1)
 rw[hl,MY s hs _ m.2.1 0 _ Gf.si (by rw[Bc];omega)]
 rfl
end bp

set_option maxRecDepth 10000
namespace bp
open Go.IntKind renaming wrap->zW,i64->zI,u8->zU
open Go Go.Ref
def fM(ae:Int):Nat:=if ae=2 then 2 else 4
def gA(ae:Int)(b:ByteArray):ByteArray:=if ae=2 then(kC (b.extract 0 2) 4).1 else b.extract 0 4
def kX(s:zf)(b:ByteArray):Sum Int mT:=
 if b.size<fM s.1 then .inl 2 else if fQ (gA s.1 b)=true/\gB (gA s.1 b)=s.2.1 then .inr (gA s.1 b,fM s.1) else .inl 7
def ix(s:zf)(b:ByteArray):List Int->Nat->List bg->List bg×bN
 | [],a,o=>(o,if a<b.size then(12,129,()) else jb)
 |no::r,a,o=>if bn s no=false then(o,(9,no,())) else if¬(oP s.1 (aY s no) b a).2.2=0 then(o,((oP s.1 (aY s no) b a).2.2,no,())) else ix s b r (oP s.1 (aY s no) b a).2.1.toNat (o++ [(no,(oP s.1 (aY s no) b a).1,())])
def rh(s:zf)(b t:ByteArray)(g:Nat×Nat×Int×Int):bK×bN:=
 if¬g.2.2.2=0 then((t,[],()),(g.2.2.2,1,())) else((t,(ix s b (elems g.1 g.2.1) g.2.2.1.toNat []).1,()),(ix s b (elems g.1 g.2.1) g.2.2.1.toNat []).2)
def JI(s:zf)(b:ByteArray):Sum Int mT->bK×bN
 | .inl e=>(dw,(e,0,()))
 | .inr q=>rh s b q.1 (cL s.1 b q.2)
def eC(s:zf)(b:ByteArray):bK×bN:=if¬(hP s).1=0 then(dw,(1,-1,())) else JI s b (kX s b)
def CN:Sum Int mT->ByteArray×Int×Int
 | .inl e=>(bs [],0,e)
 | .inr q=>(q.1,(q.2:Int),0)
theorem aho(ae:Int)(b:ByteArray):(gA ae b).size<=2000:=by
 unfold gA
 split
 ·generalize hg:kC (b.extract 0 2) 4=g
  obtain⟨t,e,i⟩:=g
  have:=zak hg
  dsimp only;omega
 ·rw[ByteArray.size_extract];omega
theorem z143(s:zf)(t:ByteArray)(z:Nat)(ht:t.size<=2000):((jw t).bind fun r3=>(bif(!r3.2) then some (bs [],(0:Int),(7:Int)) else(bif(!(decide (r3.1=s.2.1))) then some (bs [],(0:Int),(7:Int)) else some (t,(z:Int),(0:Int)))))=some (CN (if fQ t=true/\gB t=s.2.1 then .inr (t,z) else .inl 7)):=by
 rw[Sq t (by rw[zh];omega),zc]
 dsimp only
 cases hr:fQ t with
 |false=>rfl
 |true=>
  rw[Bool.not_true,zD]
  by_cases hv:gB t=s.2.1
  ·rw[zT hv,if_pos ⟨rfl,hv⟩];rfl
  ·rw[zF hv,if_neg (fun h=>hv h.2)];rfl
theorem ahp(s:zf)(b:ByteArray)(hb:b.size<=1099511627776):tv s b=some (CN (kX s b)):=by
 have h4:Q2 4=some 2:=by have:=PC 4 (by decide) (by decide);exact this
 have e0:((2:Int)).toNat=2:=rfl
 have e4:((4:Int)).toNat=4:=rfl
 have kG:=aho s.1 b
 unfold tv Vm kX
 by_cases h2:s.1=2
 ·have hz:fM 2=2:=rfl
  have hT:gA 2 b=(kC (b.extract 0 2) 4).1:=rfl
  rw[h2] at kG
  simp only[h2,decide_true,zC,h4,zc,e0]
  rw[hz]
  by_cases hc:b.size<2
  ·rw[zT (by omega),if_pos hc];rfl
  ·rw[zF (by omega),zD,zT (by decide),zC,zT (by omega),zC,if_neg hc,zhl _ _ (by rw[ByteArray.size_extract];omega),zc,<-hT]
   exact z143 s (gA 2 b) 2 kG
 ·have hz:fM s.1=4:=by unfold fM;rw[if_neg h2]
  have hT:gA s.1 b=b.extract 0 4:=by unfold gA;rw[if_neg h2]
  simp only[h2,decide_false,zD,e4]
  rw[hz]
  by_cases hc:b.size<4
  ·rw[zT (by omega),if_pos hc];rfl
  ·rw[zF (by omega),zD,zT (by omega),zC,if_neg hc,<-hT]
   exact z143 s (gA s.1 b) 4 kG
theorem acM{h l:Nat}{pre r:List Int}{no:Int}(he:elems h l=pre++no::r):iG h l no=r.headD 0:=by
 have hs:=z9h h l
 rw[he] at hs
 have hp:=List.pairwise_append.1 hs
 have hq:=List.pairwise_cons.1 hp.2.1
 unfold iG
 rw[he,List.filter_append,List.filter_eq_nil_iff.2 (fun x hx=>by have:=hp.2.2 x hx no List.mem_cons_self;simp;omega),List.nil_append,List.filter_cons_of_neg (by simp),List.filter_eq_self.2 (fun x hx=>by have:=hq.1 x hx;simp;omega)]
theorem adD(h l:Nat):iG h l 0=(elems h l).headD 0:=by
 unfold iG
 rw[List.filter_eq_self.2 (fun x hx=>by have:=zib ((EY h l x).1 hx);simp;omega)]
theorem S4(h l:Nat):(elems h l).length<=128:=by
 unfold elems
 exact Nat.le_trans (List.length_filter_le _ _) (by rw[aki];exact Nat.le_refl _)
theorem af2{ae:Int}{s:Spec}{b:ByteArray}{a:Nat}(hb:b.size<=1099511627776)(h:(oP ae s b a).2.2=0):(((oP ae s b a).2.1.toNat:Nat):Int)=(oP ae s b a).2.1:=by
 generalize hg:oP ae s b a=g at h⊢
 obtain⟨t,z,e⟩:=g
 dsimp only at h⊢
 subst h
 have:=(zdm hb hg).2.2.1
 omega
def JK(b:ByteArray)(e:Sum (ByteArray×Int×bK×bN×bK) (ByteArray×Int×bK×bN×bK)):Option (bK×bN):=Sum.elim (fun we=>some (we.2.2.1,we.2.2.2.1)) (fun we=>bif(decide (we.2.1<(we.1.size:Int))) then some (we.2.2.2.2,((12:Int),(129:Int),())) else some (we.2.2.2.2,jb)) e
theorem zp0(s:zf)(hs:s.2.2.1.length<=maxLen)(b t:ByteArray)(hb:b.size<=1099511627776)(h l:Nat)(hh:h<dd)(hl:l<dd):∀(r pre:List Int) (k a:Nat) (o:List bg),elems h l=pre++r->o.length<=pre.length->r.length<k->
 (Fu k b (a:Int) (r.headD 0) s dw jb (t,o,()) ((h:Int),(l:Int),())).bind (JK b)=some ((t,(ix s b r a o).1,()),(ix s b r a o).2)
 |r,pre,0,a,o,_,_,hk=>by omega
 | [],pre,k+1,a,o,he,ho,hk=>by
   unfold Fu QB ix
   rw[show([]:List Int).headD 0=0 from rfl,zT (p:=(0:Int)=0) rfl,Bool.not_true,zD,zc]
   unfold JK
   rw[Sum.elim_inr]
   dsimp only
   by_cases hc:a<b.size
   ·rw[zT (by omega),if_pos hc];rfl
   ·rw[zF (by omega),if_neg hc];rfl
 |no::r,pre,k+1,a,o,he,ho,hk=>by
  have cE:no∈elems h l:=by rw[he];exact List.mem_append_right _ List.mem_cons_self
  have nJ:=zib ((EY h l no).1 cE)
  have hlen:=S4 h l
  rw[he,List.length_append,List.length_cons] at hlen
  rw[List.length_cons] at hk
  unfold Fu QB ix
  rw[show(no::r).headD 0=no from rfl,zF (by omega:¬no=0),Bool.not_false,zC,Ba s _ hs,zc]
  dsimp only
  cases hf:bn s no with
  |false=>rfl
  |true=>
   rw[Bool.not_true,zD,if_neg (by decide),ada _ _ _ _ hb,zc]
   by_cases hz:(oP s.1 (aY s no) b a).2.2=0
   case neg=>rw[zF hz,if_pos hz];rfl
   rw[zT hz,Bool.not_true,zD,if_neg (fun h=>h hz),zT (by simp only[List.length_singleton];omega),zC,NN h l hh hl no (by omega) (by omega),zc,acM he,<-af2 hb hz]
   exact zp0 s hs b t hb h l hh hl r (pre++ [no]) k _ _ (by rw[he,List.append_assoc];rfl) (by rw[List.length_append,List.length_append,List.length_singleton,List.length_singleton];omega) (by omega)
theorem ajy{ae:Int}{b:ByteArray}{a:Nat}(h:(cL ae b a).2.2.2=0):(cL ae b a).1<dd/\(cL ae b a).2.1<dd/\(((cL ae b a).2.2.1.toNat:Nat):Int)=(cL ae b a).2.2.1:=by
 generalize hg:cL ae b a=g at h⊢
 obtain⟨h',l,z,e⟩:=g
 dsimp only at h⊢
 subst h
 obtain⟨_,q1,q2,q3,_⟩:=MP hg
 exact⟨by show h'<18446744073709551616;omega,q2,by omega⟩
theorem ad2(s:zf)(b:ByteArray)(hs:s.2.2.1.length<=maxLen)(hb:b.size<=1099511627776):qQ s b=some (eC s b):=by
 unfold qQ Vl eC
 rw[PO s hs,zc]
 by_cases h0:(hP s).1=0
 case neg=>rw[zF h0,if_pos h0];rfl
 rw[zT h0,Bool.not_true,zD,if_neg (fun h=>h h0),ahp s b hb,zc]
 cases ht:kX s b with
 |inl e=>
  have he:e≠0:=by
   unfold kX at ht
   split at ht
   ·cases ht;decide
   ·split at ht
    ·cases ht
    ·cases ht;decide
  exact Pa he
 |inr q=>
  obtain⟨t,z⟩:=q
  refine(Pb (p:=(0:Int)=0) rfl).trans ?_
  dsimp only[CN,JI,rh]
  rw[ajx _ _ _ hb,zc]
  by_cases he:(cL s.1 b z).2.2.2=0
  case neg=>rw[if_pos he];exact Pa he
  rw[if_neg (fun h=>h he)]
  refine(Pb he).trans ?_
  obtain⟨q1,q2,q3⟩:=ajy he
  dsimp only[bmR]
  rw[NN _ _ q1 q2 0 (by decide) (by decide),zc,adD,<-q3]
  exact zp0 s hs b t hb _ _ q1 q2 (elems (cL s.1 b z).1 (cL s.1 b z).2.1) [] ai _ [] rfl (Nat.le_refl _) (by have:=S4 (cL s.1 b z).1 (cL s.1 b z).2.1;rw[zt];omega)
end bp

set_option maxRecDepth 10000
namespace bp
open Go.IntKind renaming wrap->zW,i64->zI,u8->zU
open Go Go.Ref
theorem aoE{h l:Nat}(hh:h<dd)(hl:l<dd):dD (elems h l)=h/\dE (elems h l)=l:=
 OM (sw _) (sA _) hh hl fun n n1 n2=>by
  rw[QR]
  unfold jE
  rw[zT (p:=1<=n/\n<=128) ⟨n1,n2⟩,Bool.and_true]
  cases hn:b7 h l n with
  |true=>exact zT ((EY h l n).2 hn)
  |false=>exact zF fun hm=>by rw[(EY h l n).1 hm] at hn;cases hn
theorem OC{s:zf}(h:iN s){no:Int}(hh:bn s no=true):2<=no/\no<=128:=by
 have:=Tb (SP h hh)
 rw[(S6 hh).2] at this
 exact this
theorem ahm{s:zf}(hs:s.1=1\/s.1=2){m y:ByteArray}(hm:fQ m=true):gA s.1 (hM s.1 m++y)=m/\(hM s.1 m).size=fM s.1:=by
 obtain⟨h4,hd⟩:=oO.1 hm
 have e0:∀(p:ByteArray) (k:Nat),p.size=k->(p++y).extract 0 k=p:=fun p k hk=>by
  have:=amy (bs []) p y
  rw[EE,show(bs []).size=0 from rfl,Nat.zero_add,hk] at this
  exact this
 unfold gA hM fM
 rcases hs with hs|hs
 ·have n2:¬s.1=2:=by omega
  rw[if_neg n2,if_pos hs,if_neg n2]
  exact⟨e0 m 4 h4,h4⟩
 ·have n1:¬s.1=1:=by omega
  have hz:(qE m).1.size=2:=by rw[zam (by omega) hd,h4]
  rw[if_pos hs,if_neg n1,if_pos hs,e0 _ 2 hz]
  have:=ajt (s:=m) (by omega) hd
  rw[h4] at this
  rw[show(4:Int)=((4:Nat):Int) from rfl,this]
  exact⟨rfl,hz⟩
theorem zv0(s:zf)(b:ByteArray)(hb:b.size<=1099511627776):∀(r:List Int) (a:Nat) (o q:List bg) (f:bN),a<=b.size->ix s b r a o=(q,f)->f.1=0->f=jb/\∃l,q=o++l/\(l.map fun v=>v.1)=r/\mZ s l=b.extract a b.size/\∀v∈l,bn s v.1=true/\bJ (aY s v.1) v.2.1=0/\v.2.1.size<=999
 | [],a,o,q,f,ha,h,h0=>by
   rw[ix] at h
   by_cases hc:a<b.size
   ·rw[if_pos hc] at h
    injection h with _ h
    rw[<-h] at h0;cases h0
   ·rw[if_neg hc] at h
    injection h with h1 h2
    refine⟨h2.symm,[],by rw[<-h1,List.append_nil],rfl,?_,fun v hv=>by cases hv⟩
    have:a=b.size:=by omega
    rw[this,mZ]
    apply vH
    rw[rK,List.drop_eq_nil_of_le (by rw[List.length_take];omega)];rfl
 |no::r,a,o,q,f,ha,h,h0=>by
  rw[ix] at h
  split at h
  ·injection h with _ h;rw[<-h] at h0;cases h0
  ·rename_i hf
   have hf:bn s no=true:=by cases hh:bn s no with
    |true=>rfl
    |false=>exact absurd hh hf
   split at h
   ·rename_i hz
    injection h with _ h
    rw[<-h] at h0
    exact absurd h0 hz
   ·rename_i hz
    generalize hg:oP s.1 (aY s no) b (a:Int)=g at h hz
    obtain⟨t,z,e⟩:=g
    dsimp only at h hz
    have he:e=0:=Classical.byContradiction fun hn=>hz hn
    subst he
    obtain⟨c1,c2,c3,c4,c5,c6⟩:=zdm hb hg
    obtain⟨i1,l,i2,i3,i4,i5⟩:=zv0 s b hb r z.toNat _ q f (by omega) h h0
    refine⟨i1,(no,t,())::l,by rw[i2,List.append_assoc];rfl,by rw[List.map_cons,i3],?_,fun v hv=> ?_⟩
    ·rw[mZ,i4]
     dsimp only
     rw[c6]
     exact QK _ (by omega) (by omega)
    ·rcases List.mem_cons.1 hv with rfl|hv
     ·exact⟨hf,c2,c5⟩
     ·exact i5 v hv
theorem amx(b:ByteArray):b.extract 0 b.size=b:=by
 apply vH
 rw[rK,List.drop_zero,List.take_of_length_le (by rw[zg];exact Nat.le_refl _)]
theorem aga{s:zf}{b:ByteArray}{m:bK}{f:bN}(hb:b.size<=1099511627776)(h:eC s b=(m,f))(h0:f.1=0):f=jb/\gR s m/\im m/\fG s m=b:=by
 unfold eC at h
 split at h
 ·injection h with _ h;rw[<-h] at h0;cases h0
 rename_i xv
 have xv:(hP s).1=0:=Classical.byContradiction fun hn=>xv hn
 have ho:=(xX s).1 xv
 cases ht:kX s b with
 |inl e=>
  rw[ht] at h
  have he:e≠0:=by
   unfold kX at ht
   split at ht
   ·cases ht;decide
   ·split at ht
    ·cases ht
    ·cases ht;decide
  injection h with _ h
  rw[<-h] at h0
  exact absurd h0 he
 |inr q=>
  rw[ht] at h
  unfold kX at ht
  split at ht
  ·cases ht
  rename_i di
  split at ht
  case isFalse=>cases ht
  rename_i hr
  obtain⟨dQ,eP⟩:=hr
  injection ht with ht
  subst ht
  replace h:rh s b (gA s.1 b) (cL s.1 b (fM s.1))=(m,f):=h
  have htc:hM s.1 (gA s.1 b)=b.extract 0 (fM s.1):=by
   obtain⟨h4,hd⟩:=oO.1 dQ
   unfold hM gA fM at*
   rcases ho.1 with h1|h2
   ·rw[if_pos h1,if_neg (by omega),if_neg (by omega)]
   ·rw[if_pos h2] at di dQ h4 hd⊢
    rw[if_neg (by omega),if_pos h2]
    generalize hg:kC (b.extract 0 2) 4=g at dQ h4 hd⊢
    obtain⟨t,e,i⟩:=g
    dsimp only at h4 hd⊢
    have xx:(b.extract 0 2).size=2:=by rw[ByteArray.size_extract];omega
    have he:e=0:=by
     unfold kC at hg
     rw[if_neg (by decide),if_neg (by rw[xx];decide)] at hg
     split at hg
     ·injection hg with hg _
      rw[<-hg] at h4;cases h4
     ·injection hg with _ hg
      injection hg with hg _
      exact hg.symm
    subst he
    obtain⟨a1,_,_⟩:=zhp hg (by rw[xx];decide)
    rw[a1]
  unfold rh at h
  generalize hg:cL s.1 b ((fM s.1:Nat):Int)=g at h
  obtain⟨hi,lo,z,e⟩:=g
  dsimp only at h
  split at h
  ·rename_i he
   injection h with _ h
   rw[<-h] at h0
   exact absurd h0 he
  rename_i he
  have he:e=0:=Classical.byContradiction fun hn=>he hn
  subst he
  obtain⟨_,b1,b2,b3,b4,b5⟩:=MP hg
  generalize hq:ix s b (elems hi lo) z.toNat []=d at h
  obtain⟨q,f'⟩:=d
  injection h with hm hf
  dsimp only at hm hf
  subst hf
  obtain⟨i1,l,i2,i3,i4,i5⟩:=zv0 s b hb _ _ _ _ _ (by omega) hq h0
  rw[List.nil_append] at i2
  subst i2
  subst hm
  have Zy:iV (gA s.1 b,q,())=elems hi lo:=i3
  obtain⟨s1,s2⟩:=aoE (h:=hi) (l:=lo) (by show hi<18446744073709551616;omega) b2
  have Cp:jK q:=by
   have:=z9h hi lo
   rw[<-i3] at this
   exact List.pairwise_map.1 this
  refine⟨i1,⟨xv,dQ,eP,A3.2 ⟨fun v hv=>⟨(i5 v hv).1,(i5 v hv).2.1⟩,Cp,fun v hv=>by have:=OC ho (i5 v hv).1;omega⟩⟩,⟨by have:=(oO.1 dQ).1;dsimp only;omega,?_,fun v hv=>by have:=(i5 v hv).2.2;omega⟩,?_⟩
  ·have:=S4 hi lo
   rw[<-i3,List.length_map] at this
   dsimp only;omega
  ·unfold fG
   rw[Zy,s1,s2]
   dsimp only
   rw[htc,b5,i4,QK _ (by omega) (by omega),QK _ (by omega) (by omega),amx]
abbrev aV:=zf×Map×List Int×List bg×Unit
abbrev A0:bg:=(0,bs [],())
def kb(s:zf)(prev:List Int)(no:Int):Int:=bif !bn s no then 9 else bif decide (no=39) then 1 else bif decide (no∈prev) then 10 else 0
def gb(s:zf):List Int->List Int->Int->Option (Int×Int)
 |_,[],_=>none
 |prev,no::r,i=>bif decide (kb s prev no=0) then gb s (prev++ [no]) r (i+1) else some (kb s prev no,i)
def iu(a:Spec)(prev:List Int)(c:bg):Int:=bif decide (c.1<0) then 1 else bif decide (16<c.1) then 1 else bif decide (c.1∈prev) then 10 else bJ a c.2.1
def eX(a:Spec):List Int->List bg->Int->Option (Int×Int)
 |_,[],_=>none
 |prev,c::r,i=>bif decide (iu a prev c=0) then eX a (prev++ [c.1]) r (i+1) else some (iu a prev c,i)
def fK(s:aV):Int×Int×Int:=
 bif !decide ((hP s.1).1=0) then(1,1,0) else bif !bn s.1 39 then(9,1,1) else match gb s.1 [] s.2.2.1 0 with
  |some e=>(e.1,2,e.2)
  |none=>match eX (aY s.1 39) [] s.2.2.2.1 0 with
   |some e=>(e.1,3,e.2)
   |none=>bif decide ((0:Int)∈s.2.2.2.1.map fun c=>c.1) then(0,0,0) else(15,3,(s.2.2.2.1.length:Int))
structure cX(s:aV):Prop where
 iH:s.1.2.2.1.length<=maxLen
 oh:s.2.2.1.length<=1000000
 fX:s.2.2.2.1.length<=1000000
 si:∀c∈s.2.2.2.1,c.2.1.size<=1099511627776
theorem Na(no:Int):∀(l:List Int) (i:Int),0<=i->∃r,bd (fun i (x:Int) (s:Unit) K=>bif decide (no=x) then some (Sum.inl i) else K s) (fun _=>some (Sum.inr ())) l i ()=some r/\(no∈l->∃j,r= .inl j/\0<=j)/\(no∉l->r= .inr ())
 | [],i,_=>⟨_,rfl,fun h=>(by cases h),fun _=>rfl⟩
 |x::l,i,h=>by
  rw[bd]
  by_cases e:no=x
  ·rw[zT e,zC]
   exact⟨_,rfl,fun _=>⟨i,rfl,h⟩,fun hn=>absurd (by rw[e];exact List.mem_cons_self) hn⟩
  ·rw[zF e,zD]
   obtain⟨r,h1,h2,h3⟩:=Na no l (i+1) (by omega)
   exact⟨r,h1,fun hm=>h2 ((List.mem_cons.1 hm).resolve_left e),fun hn=>h3 fun hm=>hn (List.mem_cons_of_mem _ hm)⟩
theorem abN(l:List Int)(no:Int)(h:l.length<=maxLen):tm l no=some (decide (no∈l)):=by
 unfold tm U9 vT Vf
 have:=cr (0:Int) l h (fun i (x:Int) (s:Unit) K=>bif decide (no=x) then some (Sum.inl i) else K s) (fun _=>some (Sum.inr ()))
  (fun k i s=>QA k l no (l.length:Int) i) (fun k i s=>rfl) ()
 dsimp only
 obtain⟨r,h1,h2,h3⟩:=Na no l 0 (Int.le_refl _)
 rw[this,h1,zc]
 by_cases hm:no∈l
 ·obtain⟨j,rfl,hj⟩:=h2 hm
  rw[zT hm]
  show some (decide (0<=j))=_
  rw[zT hj]
 ·rw[h3 hm,zF hm];rfl
theorem Nb(c:bg):∀(l:List bg) (i:Int),0<=i->∃r,bd (fun i (x:bg) (s:bg) K=>((qO x s).bind fun r1=>(bif r1.1 then some (Sum.inl (i,r1.2)) else K r1.2))) (fun s=>some (Sum.inr s)) l i c=some r/\(c.1∈l.map (fun v=>v.1)->∃j,r= .inl (j,c)/\0<=j)/\(c.1∉l.map (fun v=>v.1)->r= .inr c)
 | [],i,_=>⟨_,rfl,fun h=>(by cases h),fun _=>rfl⟩
 |x::l,i,h=>by
  rw[bd]
  unfold qO UQ
  rw[zc]
  dsimp only
  rw[List.map_cons]
  by_cases e:x.1=c.1
  ·rw[zT e,zC]
   exact⟨_,rfl,fun _=>⟨i,rfl,h⟩,fun hn=>absurd (by rw[e];exact List.mem_cons_self) hn⟩
  ·rw[zF e,zD]
   obtain⟨r,h1,h2,h3⟩:=Nb c l (i+1) (by omega)
   exact⟨r,h1,fun hm=>h2 ((List.mem_cons.1 hm).resolve_left fun e2=>e e2.symm),fun hn=>h3 fun hm=>hn (List.mem_cons_of_mem _ hm)⟩
theorem abO(l:List bg)(c:bg)(h:l.length<=maxLen):tk l c=some (decide (c.1∈l.map fun v=>v.1),c):=by
 unfold tk U8 vS Vb
 have:=cr A0 l h (fun i (x:bg) (s:bg) K=>((qO x s).bind fun r1=>(bif r1.1 then some (Sum.inl (i,r1.2)) else K r1.2))) (fun s=>some (Sum.inr s))
  (fun k i s=>Qy k l (l.length:Int) i s) (fun k i s=>rfl) c
 dsimp only
 obtain⟨r,h1,h2,h3⟩:=Nb c l 0 (Int.le_refl _)
 rw[this,h1,zc]
 by_cases hm:c.1∈l.map fun v=>v.1
 ·obtain⟨j,rfl,hj⟩:=h2 hm
  rw[zT hm]
  show some (decide (0<=j),c)=_
  rw[zT hj]
 ·rw[h3 hm,zF hm];rfl
theorem G6{α:Type}{l:List α}{j:Nat}(h:j<l.length)(d:α):l.getD j d=l[j]:=by rw[List.getD_eq_getElem?_getD,List.getElem?_eq_getElem h];rfl
theorem amu(s:aV)(h:cX s){j:Nat}(hj:j<s.2.2.1.length):tg s (j:Int)=some (kb s.1 (s.2.2.1.take j) s.2.2.1[j]):=by
 have he:=h.oh
 unfold tg UR kb
 rw[zk hj,Int.toNat_natCast,G6 hj,Ba s.1 _ h.iH,zc]
 cases bn s.1 s.2.2.1[j] with
 |false=>rfl
 |true=>
  dsimp only
  rw[Bool.not_true,zD,zD]
  cases decide (s.2.2.1[j]=39) with
  |true=>rfl
  |false=>
   rw[zD,zD,zT (by omega),zC,zT (by omega),zC,List.drop_zero,abN _ _ (by rw[List.length_take,zh];omega),zc]
   cases decide (s.2.2.1[j]∈s.2.2.1.take j)<;>rfl
theorem amr(s:aV)(h:cX s)(a:Spec){j:Nat}(hj:j<s.2.2.2.1.length):tf s (j:Int) a=some (iu a ((s.2.2.2.1.take j).map fun c=>c.1) s.2.2.2.1[j]):=by
 have he:=h.fX
 have ht:=h.si _ (List.getElem_mem hj)
 unfold tf UP iu
 rw[zk hj,Int.toNat_natCast,G6 hj]
 cases decide (s.2.2.2.1[j].1<0) with
 |true=>rfl
 |false=>
  rw[zD,zD]
  cases decide (16<s.2.2.2.1[j].1) with
  |true=>rfl
  |false=>
   rw[zD,zD,zT (by omega),zC,zT (by omega),zC,List.drop_zero,abO _ _ (by rw[List.length_take,zh];omega),zc]
   dsimp only
   cases decide (s.2.2.2.1[j].1∈(s.2.2.2.1.take j).map fun c=>c.1) with
   |true=>rfl
   |false=>rw[zD,zD,xZ _ _ ht];rfl
theorem LD(s:aV)(h:cX s)(sp:Spec):∀(n j k:Nat),j+n=s.2.2.1.length->n<k->Fq k (s.2.2.1.length:Int) (j:Int) s sp=some (match gb s.1 (s.2.2.1.take j) (s.2.2.1.drop j) j with
 |some e=> .inl (e.1,2,e.2,s,sp)
 |none=> .inr (s,sp))
 |n,j,0,_,hk=>by omega
 |0,j,k+1,hj,hk=>by
  unfold Fq Qs
  rw[zF (by omega),zD,List.drop_eq_nil_of_le (by omega)];rfl
 |n+1,j,k+1,hj,hk=>by
  have ar:j<s.2.2.1.length:=by omega
  have he:=h.oh
  unfold Fq Qs
  rw[zT (by omega),zC,amu s h ar,zc,List.drop_eq_getElem_cons ar,gb]
  cases decide (kb s.1 (s.2.2.1.take j) s.2.2.1[j]=0) with
  |false=>rfl
  |true=>
   rw[Bool.not_true,zD,zC]
   dsimp only
   rw[zq (by omega),List.take_append_getElem ar]
   exact LD s h sp n (j+1) k (by omega) (by omega)
def lP(t:Bool):List bg->Bool
 | []=>t
 |c::r=>lP (t||decide (c.1=0)) r
theorem NJ(t:Bool):∀l:List bg,lP t l=(t||decide ((0:Int)∈l.map fun c=>c.1))
 | []=>by simp [lP]
 |c::r=>by
  rw[lP,NJ _ r,List.map_cons,Bool.or_assoc]
  congr 1
  rw[<-Bool.decide_or]
  exact decide_eq_decide.2 ⟨fun h=>h.elim (fun e=>by rw[<-e];exact List.mem_cons_self) (List.mem_cons_of_mem _),fun h=>(List.mem_cons.1 h).imp (fun e=>e.symm) id⟩
theorem zhw(s:aV)(h:cX s)(a:Spec):∀(n j k:Nat) (t:Bool),j+n=s.2.2.2.1.length->n<k->∃t',Fs k t s.2.2.2.1 (s.2.2.2.1.length:Int) (j:Int) s a=some (match eX a ((s.2.2.2.1.take j).map fun c=>c.1) (s.2.2.2.1.drop j) j with
 |some e=> .inl (e.1,3,e.2,t',s)
 |none=> .inr (lP t (s.2.2.2.1.drop j),s))
 |n,j,0,t,_,hk=>by omega
 |0,j,k+1,t,hj,hk=>by
  unfold Fs Qt
  rw[zF (by omega),zD,List.drop_eq_nil_of_le (by omega)]
  exact⟨t,rfl⟩
 |n+1,j,k+1,t,hj,hk=>by
  have ar:j<s.2.2.2.1.length:=by omega
  have he:=h.fX
  unfold Fs Qt
  rw[zT (by omega),zC,zk ar,amr s h a ar,zc,List.drop_eq_getElem_cons ar,eX,lP]
  cases decide (iu a ((s.2.2.2.1.take j).map fun c=>c.1) s.2.2.2.1[j]=0) with
  |false=>exact⟨t,rfl⟩
  |true=>
   rw[Bool.not_true,zD,zC]
   dsimp only
   rw[zq (by omega),Int.toNat_natCast,G6 ar]
   have e:(s.2.2.2.1.take j).map (fun c=>c.1)++ [s.2.2.2.1[j].1]=(s.2.2.2.1.take (j+1)).map fun c=>c.1:=by rw[<-List.take_append_getElem ar,List.map_append];rfl
   rw[e]
   cases t with
   |true=>
    rw[zC,Bool.true_or]
    exact zhw s h a n (j+1) k true (by omega) (by omega)
   |false=>
    rw[zD,Bool.false_or]
    exact zhw s h a n (j+1) k _ (by omega) (by omega)
theorem zov(s:aV)(h:cX s):td s=some (fK s):=by
 have he:=h.oh
 have hc:=h.fX
 unfold td UI fK
 rw[PO s.1 h.iH,zc]
 cases decide ((hP s.1).1=0) with
 |false=>rfl
 |true=>
  rw[Bool.not_true,zD,zD,Ba s.1 39 h.iH,zc]
  cases bn s.1 39 with
  |false=>rfl
  |true=>
   dsimp only
   rw[Bool.not_true,zD,zD]
   have e1:=LD s h (aY s.1 39) s.2.2.1.length 0 ai (by omega) (by rw[zt];omega)
   rw[List.take_zero,List.drop_zero,show((0:Nat):Int)=0 from rfl] at e1
   rw[e1,zc]
   cases gb s.1 [] s.2.2.1 0 with
   |some e=>rfl
   |none=>
    dsimp only
    rw[Sum.elim_inr]
    unfold UJ
    dsimp only
    obtain⟨t',e2⟩:=zhw s h (aY s.1 39) s.2.2.2.1.length 0 ai false (by omega) (by rw[zt];omega)
    rw[List.take_zero,List.drop_zero,show((0:Nat):Int)=0 from rfl,List.map_nil] at e2
    rw[e2,zc]
    cases eX (aY s.1 39) [] s.2.2.2.1 0 with
    |some e=>rfl
    |none=>
     dsimp only
     rw[Sum.elim_inr]
     unfold UK
     rw[NJ,Bool.false_or]
     dsimp only
     cases decide ((0:Int)∈s.2.2.2.1.map fun c=>c.1)<;>rfl
theorem zoc(l:List bg)(hl:l.length<=9223372036854775807)(m:Nat)(hm:m<=l.length)(e:Int):∀(n j k:Nat),j+n=m->n<k->∃r,Fi k l (m:Int) e (j:Int)=some r/\(e∈((l.take m).drop j).map (fun v=>v.1)->∃i,r= .inl i/\0<=i)/\(e∉((l.take m).drop j).map (fun v=>v.1)->r= .inr ())
 |n,j,0,_,hk=>by omega
 |0,j,k+1,hj,hk=>by
  unfold Fi Qg
  rw[zF (by omega),zD,List.drop_eq_nil_of_le (by rw[List.length_take];omega)]
  exact⟨_,rfl,fun h=>(by cases h),fun _=>rfl⟩
 |n+1,j,k+1,hj,hk=>by
  have ar:j<l.length:=by omega
  have gi:j<(l.take m).length:=by rw[List.length_take];omega
  unfold Fi Qg
  rw[zT (by omega),zC,zk ar,Int.toNat_natCast,G6 ar,List.drop_eq_getElem_cons gi,List.map_cons,List.getElem_take]
  by_cases he:l[j].1=e
  ·rw[zT he,zC]
   exact⟨_,rfl,fun _=>⟨(j:Int),rfl,by omega⟩,fun hn=>absurd (by rw[he];exact List.mem_cons_self) hn⟩
  ·rw[zF he,zD]
   dsimp only
   rw[zq (by omega)]
   obtain⟨r,h1,h2,h3⟩:=zoc l hl m hm e n (j+1) k (by omega) (by omega)
   exact⟨r,h1,fun hm=>h2 ((List.mem_cons.1 hm).resolve_left fun e2=>he e2.symm),fun hn=>h3 fun hm=>hn (List.mem_cons_of_mem _ hm)⟩
theorem LN(l:List bg)(hl:l.length<=maxLen)(m:Nat)(hm:m<=l.length)(e:Int):∃r,qJ l (m:Int) e=some r/\decide (0<=r)=decide (e∈(l.take m).map fun v=>v.1):=by
 unfold qJ TT
 rw[zh] at hl
 obtain⟨r,h1,h2,h3⟩:=zoc l (by omega) m hm e m 0 ai (by omega) (by rw[zt];omega)
 rw[show((0:Nat):Int)=0 from rfl] at h1
 dsimp only
 rw[h1,zc]
 rw[List.drop_zero] at h2 h3
 by_cases dm:e∈(l.take m).map fun v=>v.1
 ·obtain⟨i,rfl,hi⟩:=h2 dm
  exact⟨i,rfl,by rw[zT hi,zT dm]⟩
 ·rw[h3 dm]
  exact⟨-1,rfl,by rw[zF dm];rfl⟩
theorem zo9(s:aV)(h:cX s)(t5:Int):∀(n j k:Nat),j+n=s.2.2.1.length->n<k->Fg k t5 (j:Int) s=some (match gb s.1 (s.2.2.1.take j) (s.2.2.1.drop j) j with
 |some e=> .inl (e.1,2,e.2,t5,s)
 |none=> .inr (t5,s))
 |n,j,0,_,hk=>by omega
 |0,j,k+1,hj,hk=>by
  unfold Fg Qd
  rw[zF (by omega),zD,List.drop_eq_nil_of_le (by omega)];rfl
 |n+1,j,k+1,hj,hk=>by
  have ar:j<s.2.2.1.length:=by omega
  have he:=h.oh
  have ih:=zo9 s h t5 n (j+1) k (by omega) (by omega)
  have hw:∀{R:Type} (z:Option R),zd (j:Int) s.2.2.1.length z=z:=fun z=>zk ar
  unfold Fg Qd
  simp only[hw]
  rw[zT (by omega),zC,Int.toNat_natCast,G6 ar,SB s.1 _ h.iH,zc,List.drop_eq_getElem_cons ar,gb]
  unfold kb
  rcases SJ s.1 s.2.2.1[j] with⟨h1,h2,_⟩|⟨h1,_,h2,_⟩
  ·rw[h1,h2];rfl
  ·rw[h2,zF (by omega),zD,Bool.not_true,zD]
   cases decide (s.2.2.1[j]=39) with
   |true=>rfl
   |false=>
    rw[zD,zD,zT (by omega),zC,zT (by omega),zC,List.drop_zero,akO _ _ (by rw[List.length_take,zh];omega),zc]
    cases decide (s.2.2.1[j]∈s.2.2.1.take j) with
    |true=>rfl
    |false=>
     rw[zD,zD,zT rfl,zC]
     rw[zq (by omega),List.take_append_getElem ar]
     exact ih
theorem zo8(s:aV)(h:cX s)(t5:Int)(h5:0<=t5/\t5<s.1.2.2.1.length)(hs5:List.getD s.1.2.2.1 t5.toNat dc=aY s.1 39):∀(n j k:Nat),j+n=s.2.2.2.1.length->n<k->Fh k t5 (j:Int) s=some (match eX (aY s.1 39) ((s.2.2.2.1.take j).map fun c=>c.1) (s.2.2.2.1.drop j) j with
 |some e=> .inl (e.1,3,e.2,s)
 |none=> .inr s)
 |n,j,0,_,hk=>by omega
 |0,j,k+1,hj,hk=>by
  unfold Fh Qe
  rw[zF (by omega),zD,List.drop_eq_nil_of_le (by omega)];rfl
 |n+1,j,k+1,hj,hk=>by
  have ar:j<s.2.2.2.1.length:=by omega
  have he:=h.fX
  have ih:=zo8 s h t5 h5 hs5 n (j+1) k (by omega) (by omega)
  have hw:∀{R:Type} (z:Option R),zd (j:Int) s.2.2.2.1.length z=z:=fun z=>zk ar
  have hw5:∀{R:Type} (z:Option R),zd t5 s.1.2.2.1.length z=z:=fun z=>zn h5.1 h5.2
  have ht:=h.si _ (List.getElem_mem ar)
  obtain⟨r,f1,f2⟩:=LN s.2.2.2.1 (by rw[zh];omega) j (by omega) s.2.2.2.1[j].1
  unfold Fh Qe
  simp only[hw,hw5]
  rw[zT (by omega),zC,Int.toNat_natCast,G6 ar,f1,zc,f2,hs5,Gn _ _ ht,zc,List.drop_eq_getElem_cons ar,eX]
  unfold iu
  cases decide (s.2.2.2.1[j].1<0) with
  |true=>rfl
  |false=>
   rw[zD,zD]
   cases decide (16<s.2.2.2.1[j].1) with
   |true=>rfl
   |false=>
    rw[zD,zD]
    cases decide (s.2.2.2.1[j].1∈(s.2.2.2.1.take j).map fun c=>c.1) with
    |true=>rfl
    |false=>
     rw[zD,zD]
     cases decide (bJ (aY s.1 39) s.2.2.2.1[j].2.1=0) with
     |false=>rfl
     |true=>
      rw[Bool.not_true,zD,zC]
      have e:(s.2.2.2.1.take j).map (fun c=>c.1)++ [s.2.2.2.1[j].1]=(s.2.2.2.1.take (j+1)).map fun c=>c.1:=by rw[<-List.take_append_getElem ar,List.map_append];rfl
      rw[zq (by omega),e]
      exact ih
theorem zrc(s:aV)(h:cX s):sP s=some (fK s):=by
 have he:=h.oh
 have hc:=h.fX
 unfold sP TM fK
 rw[zda s.1 h.iH,zc]
 cases decide ((hP s.1).1=0) with
 |false=>rfl
 |true=>
  rw[Bool.not_true,zD,zD,SB s.1 39 h.iH,zc]
  rcases SJ s.1 39 with⟨h1,h2,_⟩|⟨h1,Y5,h2,h3⟩
  ·rw[h1,h2];rfl
  ·rw[h2,zF (by omega),zD,Bool.not_true,zD]
   dsimp only
   have e1:=zo9 s h (fc s.1.2.2.1 39 0) s.2.2.1.length 0 ai (by omega) (by rw[zt];omega)
   rw[List.take_zero,List.drop_zero,show((0:Nat):Int)=0 from rfl] at e1
   rw[e1,zc]
   cases gb s.1 [] s.2.2.1 0 with
   |some e=>rfl
   |none=>
    dsimp only
    rw[Sum.elim_inr]
    unfold TN
    dsimp only
    have e2:=zo8 s h (fc s.1.2.2.1 39 0) ⟨h1,Y5⟩ h3 s.2.2.2.1.length 0 ai (by omega) (by rw[zt];omega)
    rw[List.take_zero,List.drop_zero,show((0:Nat):Int)=0 from rfl,List.map_nil] at e2
    rw[e2,zc]
    cases eX (aY s.1 39) [] s.2.2.2.1 0 with
    |some e=>rfl
    |none=>
     dsimp only
     rw[Sum.elim_inr]
     unfold TO
     obtain⟨r,f1,f2⟩:=LN s.2.2.2.1 (by rw[zh];omega) s.2.2.2.1.length (Nat.le_refl _) 0
     rw[List.take_length] at f2
     rw[f1,zc]
     by_cases hr:0<=r
     ·rw[zT hr] at f2
      rw[zF (by omega),<-f2];rfl
     ·rw[zF hr] at f2
      rw[zT (by omega),<-f2];rfl
abbrev qD:=List aV×Int×Unit
abbrev amU:zf:=((0:Int),(0:Int),([]:List Spec),())
abbrev qx:aV:=(amU,KE,([]:List Int),([]:List bg),())
abbrev K0:Ty:= .pair (.int .i64) (.pair .str .unit)
abbrev uJ:Ty:= .pair amW (.pair K1 (.pair (.sl 0 (.int .i64)) (.pair (.sl 0 K0) .unit)))
abbrev Wd:Ty:= .pair (.arr 2 uJ) (.pair (.int .i64) .unit)
theorem ahl{c:qD}(h:c.1.length=2):∃p q,c=([p,q],c.2.1,()):=by
 obtain⟨l,n,u⟩:=c
 match l,h with
 | [p,q],_=>exact⟨p,q,rfl⟩
theorem Hn:∃k,ai=k+1+1+1:=⟨ai-3,by rw[zt]⟩
def Ho(s:aV):Bool:=decide ((200:Int)<(s.1.2.2.1.length:Int))||(decide ((300:Int)<(s.2.2.1.length:Int))||(decide ((300:Int)<(s.2.2.2.1.length:Int))||s.2.2.2.1.any fun c=>decide ((1200:Int)<(c.2.1.size:Int))))
theorem Pg:∀(l:List bg) (i:Int),bd (fun i (x:bg) (s:Unit) K=>(bif(decide ((1200:Int)<((x.2.1).size:Int))) then some (Sum.inl true) else K s)) (fun _=>some (Sum.inr ())) l i ()=some (bif l.any (fun c=>decide ((1200:Int)<(c.2.1.size:Int))) then Sum.inl true else Sum.inr ())
 | [],i=>rfl
 |x::r,i=>by
  rw[bd,List.any_cons]
  cases decide ((1200:Int)<(x.2.1.size:Int)) with
  |true=>rfl
  |false=>exact Pg r (i+1)
theorem zrd(s:aV)(h:s.2.2.2.1.length<=maxLen):mI s=some (Ho s):=by
 unfold mI TR Ho
 cases decide ((200:Int)<(s.1.2.2.1.length:Int)) with
 |true=>rfl
 |false=>
  rw[zD,Bool.false_or]
  cases decide ((300:Int)<(s.2.2.1.length:Int)) with
  |true=>rfl
  |false=>
   rw[zD,Bool.false_or]
   cases decide ((300:Int)<(s.2.2.2.1.length:Int)) with
   |true=>rfl
   |false=>
    rw[zD,Bool.false_or]
    have:=cr A0 s.2.2.2.1 h (fun i (x:bg) (s:Unit) K=>(bif(decide ((1200:Int)<((x.2.1).size:Int))) then some (Sum.inl true) else K s)) (fun _=>some (Sum.inr ()))
     (fun k i u=>Qf k i s) (fun k i u=>rfl) ()
    dsimp only
    rw[this,Pg]
    cases s.2.2.2.1.any (fun c=>decide ((1200:Int)<(c.2.1.size:Int)))<;>rfl
theorem LR{s:aV}(h:Ho s=false):cX s/\s.1.2.2.1.length<=200/\s.2.2.1.length<=300/\s.2.2.2.1.length<=300/\∀c∈s.2.2.2.1,c.2.1.size<=1200:=by
 unfold Ho at h
 simp only[Bool.or_eq_false_iff,decide_eq_false_iff_not] at h
 obtain⟨h1,h2,h3,h4⟩:=h
 have ht:∀c∈s.2.2.2.1,c.2.1.size<=1200:=fun c hc=>by
  by_cases e:(1200:Int)<(c.2.1.size:Int)
  ·rw[List.any_eq_true.2 ⟨c,hc,zT e⟩] at h4;cases h4
  ·omega
 exact⟨⟨by rw[zh];omega,by omega,by omega,fun c hc=>by have:=ht c hc;omega⟩,by omega,by omega,by omega,ht⟩
structure ct(p q:aV):Prop where
 sp:cX p
 sq:cX q
 pm:dL p.2.1
 qm:dL q.2.1
 CE:p.1.2.2.1.length<=200
 CH:q.1.2.2.1.length<=200
 pe:p.2.2.1.length<=300
 qe:q.2.2.1.length<=300
 pml:p.2.1.2.1.length<=300
 qml:q.2.1.2.1.length<=300
 abt:∀c∈p.2.2.2.1,c.2.1.size<=1200
 abu:∀c∈q.2.2.2.1,c.2.1.size<=1200
theorem zoh{m:Map}(h:Bq m=false):m.2.1.length<=300:=by
 unfold Bq at h
 simp only[Bool.or_eq_false_iff,decide_eq_false_iff_not] at h
 omega
theorem adw{p q:aV}{n:Int}(h:Wf Wd ([p,q],n,())):∃g,mJ ([p,q],n,())=some g/\(g=false->ct p q):=by
 have hp:Wf uJ p:=h.1.2 p (by simp)
 have hq:Wf uJ q:=h.1.2 q (by simp)
 have w0:∀{R:Type} (x:Option R),zd 0 2 x=x:=fun x=>zn (by omega) (by omega)
 have w1:∀{R:Type} (x:Option R),zd 1 2 x=x:=fun x=>zn (by omega) (by omega)
 unfold mJ TY
 simp only[w0,w1]
 show∃g,((mI p).bind fun r1=>(bif r1 then some true else((mI q).bind fun r2=>(bif r2 then some true else((lQ p.2.1).bind fun r3=>(bif r3 then some true else((lQ q.2.1).bind fun r4=>some r4)))))))=some g/\_
 rw[zrd p hp.2.2.2.1.1,zc]
 cases h1:Ho p with
 |true=>exact⟨true,rfl,fun h=>by cases h⟩
 |false=>
  rw[zD,zrd q hq.2.2.2.1.1,zc]
  cases h2:Ho q with
  |true=>exact⟨true,rfl,fun h=>by cases h⟩
  |false=>
   rw[zD,NH hp.2.1,zc]
   cases h3:Bq p.2.1 with
   |true=>exact⟨true,rfl,fun h=>by cases h⟩
   |false=>
    rw[zD,NH hq.2.1,zc]
    refine⟨_,rfl,fun h4=> ?_⟩
    obtain⟨a1,a2,a3,a4,a5⟩:=LR h1
    obtain⟨b1,b2,b3,b4,b5⟩:=LR h2
    exact⟨a1,b1,LQ h3,LQ h4,a2,b2,a3,b3,zoh h3,zoh h4,a5,b5⟩
def eW(p q:aV)(n:Int):Int×Int×Int:=
 bif decide (n<1) then(5,2,0) else bif decide (65535<n) then(5,2,0)
 else bif !decide ((fK p).1=0) then((fK p).1,0,1) else bif !decide ((dB p.2.1 p.1 q.1).1=0) then((dB p.2.1 p.1 q.1).1,0,2)
 else bif !decide ((fK q).1=0) then((fK q).1,1,1) else bif !decide ((dB q.2.1 q.1 p.1).1=0) then((dB q.2.1 q.1 p.1).1,1,2) else(0,0,0)
theorem uU{R:Type}(x:Option R):zd 0 2 x=x:=zn (by omega) (by omega)
theorem uV{R:Type}(x:Option R):zd 1 2 x=x:=zn (by omega) (by omega)
theorem xU:zW zI ((1:Int)-(0:Int))=1:=by decide
theorem xV:zW zI ((1:Int)-(1:Int))=0:=by decide
theorem xT:zW zI ((0:Int)+(1:Int))=1:=by decide
theorem xW:zW zI ((1:Int)+(1:Int))=2:=by decide
theorem gp(p q:aV):List.getD [p,q] (0:Int).toNat qx=p:=rfl
theorem gq(p q:aV):List.getD [p,q] (1:Int).toNat qx=q:=rfl
theorem ze5(p q:aV)(n:Int)(h:ct p q):qP ([p,q],n,())=some (eW p q n):=by
 obtain⟨k,hk⟩:=Hn
 unfold qP UT eW
 dsimp only
 cases decide (n<1) with
 |true=>rfl
 |false=>
  cases decide (65535<n) with
  |true=>rfl
  |false=>
   rw[zD,zD,zD,zD,hk]
   unfold Ft GV
   simp only[uU,uV,xU,xV,xT,xW,gp,gq]
   rw[zT (by decide:(0:Int)<2),zC,zov p h.sp,zc]
   cases decide ((fK p).1=0) with
   |false=>rfl
   |true=>
    rw[Bool.not_true,zD,zD,z7u p.2.1 p.1 q.1 h.pm h.sp.iH h.sq.iH,zc]
    cases decide ((dB p.2.1 p.1 q.1).1=0) with
    |false=>rfl
    |true=>
     rw[Bool.not_true,zD,zD]
     unfold Ft GV
     simp only[uU,uV,xU,xV,xT,xW,gp,gq]
     rw[zT (by decide:(1:Int)<2),zC,zov q h.sq,zc]
     cases decide ((fK q).1=0) with
     |false=>rfl
     |true=>
      rw[Bool.not_true,zD,zD,z7u q.2.1 q.1 p.1 h.qm h.sq.iH h.sp.iH,zc]
      cases decide ((dB q.2.1 q.1 p.1).1=0) with
      |false=>rfl
      |true=>
       rw[Bool.not_true,zD,zD]
       unfold Ft GV
       rw[zF (by decide:¬(2:Int)<2),zD]
       rfl
theorem acV(p q:aV)(n:Int)(h:ct p q):sR ([p,q],n,())=some (eW p q n):=by
 obtain⟨k,hk⟩:=Hn
 unfold sR TV eW
 dsimp only
 cases decide (n<1) with
 |true=>rfl
 |false=>
  cases decide (65535<n) with
  |true=>rfl
  |false=>
   rw[zD,zD,zD,zD,hk]
   unfold Fj GO
   simp only[uU,uV,xU,xV,xT,xW,gp,gq]
   rw[zT (by decide:(0:Int)<2),zC,zrc p h.sp,zc]
   cases decide ((fK p).1=0) with
   |false=>rfl
   |true=>
    rw[Bool.not_true,zD,zD,zrb p.2.1 p.1 q.1 h.pm h.sp.iH h.sq.iH,zc]
    cases decide ((dB p.2.1 p.1 q.1).1=0) with
    |false=>rfl
    |true=>
     rw[Bool.not_true,zD,zD]
     unfold Fj GO
     simp only[uU,uV,xU,xV,xT,xW,gp,gq]
     rw[zT (by decide:(1:Int)<2),zC,zrc q h.sq,zc]
     cases decide ((fK q).1=0) with
     |false=>rfl
     |true=>
      rw[Bool.not_true,zD,zD,zrb q.2.1 q.1 p.1 h.qm h.sq.iH h.sp.iH,zc]
      cases decide ((dB q.2.1 q.1 p.1).1=0) with
      |false=>rfl
      |true=>
       rw[Bool.not_true,zD,zD]
       unfold Fj GO
       rw[zF (by decide:¬(2:Int)<2),zD]
       rfl
theorem Lc(s:aV)(h:cX s)(h2:s.1.2.2.1.length<=200):sQ s=some s:=by
 have he:=h.oh
 have hc:=h.fX
 unfold sQ TP
 rw[adZ s.1 (by omega),zc,zT (by simp;omega),zC,zT (by simp;omega),zC]
 rfl
theorem qv(p q r:aV):List.set [p,q] (0:Int).toNat r=[r,q]:=rfl
theorem qw(p q r:aV):List.set [p,q] (1:Int).toNat r=[p,r]:=rfl
theorem F3(p q:aV):List.getD [p,q] (0:Int).toNat ((((0:Int),(0:Int),([]:List Spec),()),(([]:List bD),([]:List aW),()),([]:List Int),([]:List bg),()):aV)=p:=rfl
theorem F4(p q:aV):List.getD [p,q] (1:Int).toNat ((((0:Int),(0:Int),([]:List Spec),()),(([]:List bD),([]:List aW),()),([]:List Int),([]:List bg),()):aV)=q:=rfl
theorem ad1(p q:aV)(n:Int)(h:ct p q):sS ([p,q],n,())=some ([p,q],n,()):=by
 obtain⟨k,hk⟩:=Hn
 unfold sS TX
 dsimp only
 rw[hk]
 unfold Fk GQ
 simp only[uU,uV,xU,xV,xT,xW,gp,gq,F3,F4,qv,qw]
 rw[zT (by decide:(0:Int)<2),zC,Lb _ h.pm,zc,Lc p h.sp h.CE,zc]
 unfold Fk GQ
 simp only[uU,uV,xU,xV,xT,xW,gp,gq,F3,F4,qv,qw]
 rw[zT (by decide:(1:Int)<2),zC,Lb _ h.qm,zc,Lc q h.sq h.CH,zc]
 unfold Fk GQ
 rw[zF (by decide:¬(2:Int)<2),zD]
 rfl
theorem w0{R:Type}(x:Option R):zd 0 2 x=x:=zn (by omega) (by omega)
theorem w1{R:Type}(x:Option R):zd 1 2 x=x:=zn (by omega) (by omega)
theorem ga(a b:zf):List.getD ([a,b]:List zf) (0:Int).toNat ((0:Int),(0:Int),([]:List Spec),())=a:=rfl
def dq(m:ByteArray):ByteArray:=strOf [ze m 0,ze m 1,ze m 2+1,ze m 3]
theorem amC{m:ByteArray}(h:m.size=4):bl m=[ze m 0,ze m 1,ze m 2,ze m 3]:=by
 have hl:(bl m).length=4:=by rw[zg];exact h
 have e:=fun i=>lL m i
 match hb:bl m,hl with
 | [a,b,c,d],_=>rw[e 0,e 1,e 2,e 3,hb];rfl
theorem SQ{m:ByteArray}(h:dK m=true):fQ m=true/\(ze m 2=48\/ze m 2=50):=by
 unfold dK at h
 rw[Bool.and_eq_true,Bool.or_eq_true,decide_eq_true_eq,decide_eq_true_eq] at h
 exact h
theorem OJ{m:ByteArray}(h:dK m=true):bl (dq m)=[ze m 0,ze m 1,ze m 2+1,ze m 3]/\bG [ze m 0,ze m 1,ze m 2+1,ze m 3]=true:=by
 obtain⟨hr,h2⟩:=SQ h
 have d0:=yf hr 0 (by decide)
 have d1:=yf hr 1 (by decide)
 have d3:=yf hr 3 (by decide)
 have hd:bG [ze m 0,ze m 1,ze m 2+1,ze m 3]=true:=rM.2 ⟨vv.2 d0,rM.2 ⟨vv.2 d1,rM.2 ⟨vv.2 (by omega),rM.2 ⟨vv.2 d3,rfl⟩⟩⟩⟩
 exact⟨sm (Lw hd),hd⟩
theorem amT{m:ByteArray}(h:dK m=true):fQ (dq m)=true/\gB (dq m)=gB m/\dK (dq m)=false:=by
 obtain⟨hr,h2⟩:=SQ h
 obtain⟨hb,hd⟩:=OJ h
 have hs:(dq m).size=4:=by rw[<-zg,hb];rfl
 have eP:fQ (dq m)=true:=oO.2 ⟨hs,by rw[hb];exact hd⟩
 have e0:ze (dq m) 0=ze m 0:=by rw[lL (dq m),hb];rfl
 have e2:ze (dq m) 2=ze m 2+1:=by rw[lL (dq m),hb];rfl
 refine⟨eP,?_,?_⟩
 ·unfold gB
  rw[hr,eP,e0]
 ·unfold dK
  rw[eP,e2,zF (by omega),zF (by omega)];rfl
theorem acn(m:ByteArray)(h:m.size<=maxLen):s8 m=some (if dK m=true then(dq m,true) else(bs [],false)):=by
 unfold s8 Uw
 rw[zd9 m h,zc]
 cases hr:dK m with
 |false=>rfl
 |true=>
  obtain⟨dQ,h2⟩:=SQ hr
  have h4:=(oO.1 dQ).1
  have hb:=amC h4
  have z1:(m.extract 0 2).size=2:=by rw[ByteArray.size_extract];omega
  have z3:(m.extract 3 m.size).size=1:=by rw[ByteArray.size_extract];omega
  have zs:∀x:Int,(strOf [x]).size=1:=fun x=>by rw[uY];rfl
  have hw:zW zU (ze m 2+1)=ze m 2+1:=by
   rcases h2 with e|e<;>rw[e]<;>decide
  rw[Bool.not_true,zD,show((2:Int)).toNat=2 from rfl,show((3:Int)).toNat=3 from rfl,zT (by omega),zC,show(2:Int)=((2:Nat):Int) from rfl,zk (by omega),hw,zT (by rw[z1,zs];decide),zC,zT (by omega),zC,zT (by rw[Bc,z1,zs,z3];decide),zC,if_pos rfl]
  congr 2
  apply vH
  rw[u7,u7,rK,rK,h4,hb,(OJ hr).1]
  have hx:zm (ze m 2+1):=by unfold zm;omega
  rw[sm (xs:=[ze m 2+1]) (by simpa using hx)]
  rfl
def eQ(l:List bg)(no:Int):Option bg:=l.find? fun v=>decide (v.1=no)
theorem z183(no:Int):∀(l:List bg) (i:Int),bd (fun i (x:bg) (s:Unit) K=>bif decide (x.1=no) then some (Sum.inl (x.2.1,true)) else K s) (fun _=>some (Sum.inr ())) l i ()=some (match eQ l no with
 |some v=> .inl (v.2.1,true)
 |none=>(.inr ():Sum jL Unit))
 | [],i=>rfl
 |x::r,i=>by
  rw[bd]
  unfold eQ
  rw[List.find?_cons]
  cases hx:decide (x.1=no) with
  |true=>rfl
  |false=>exact z183 no r (i+1)
theorem akQ(m:bK)(no:Int)(h:m.2.1.length<=1000000):nZ m no=some (match eQ m.2.1 no with
 |some v=>(v.2.1,true)
 |none=>(bs [],false)):=by
 unfold nZ Up
 dsimp only
 have:=cr nA m.2.1 (by rw[zh];omega) (fun i (x:bg) (s:Unit) K=>bif decide (x.1=no) then some (Sum.inl (x.2.1,true)) else K s) (fun _=>some (Sum.inr ())) (fun k i s=>Qm k no m.2.1 (m.2.1.length:Int) i) (fun k i s=>rfl) ()
 rw[this,z183]
 cases eQ m.2.1 no<;>rfl
def iv(s:aV)(e:Int):ByteArray:=match eQ s.2.2.2.1 e with
 |some c=>c.2.1
 |none=>match eQ s.2.2.2.1 0 with
  |some c=>c.2.1
  |none=>bs []
theorem Lq(s:aV)(e:Int)(q:List Int)(n i0:Int):∀(l:List bg) (i:Int),bd (fun i (x:bg) (u:Unit) K=>bif decide (x.1=e) then some (Sum.inl (x.2.1,q,n,i0,s)) else K u) (fun _=>some (Sum.inr (q,n,i0,s))) l i ()=some (match eQ l e with
 |some v=> .inl (v.2.1,q,n,i0,s)
 |none=>(.inr (q,n,i0,s):Sum (ByteArray×List Int×Int×Int×aV) (List Int×Int×Int×aV)))
 | [],i=>rfl
 |x::r,i=>by
  rw[bd]
  unfold eQ
  rw[List.find?_cons]
  cases hx:decide (x.1=e) with
  |true=>rfl
  |false=>exact Lq s e q n i0 r (i+1)
theorem ams(s:aV)(hs:s.2.2.2.1.length<=1000000)(e:Int)(q:List Int)(n i0:Int):GU ai e q n i0 s.2.2.2.1 (s.2.2.2.1.length:Int) 0 s=some (match eQ s.2.2.2.1 e with
 |some v=> .inl (v.2.1,q,n,i0,s)
 |none=>(.inr (q,n,i0,s):Sum (ByteArray×List Int×Int×Int×aV) (List Int×Int×Int×aV))):=by
 rw[<-Lq s e q n i0 s.2.2.2.1 0]
 exact cr nA s.2.2.2.1 (by rw[zh];omega) (fun i (x:bg) (u:Unit) K=>bif decide (x.1=e) then some (Sum.inl (x.2.1,q,n,i0,s)) else K u) (fun _=>some (Sum.inr (q,n,i0,s))) (fun k i u=>GU k e q n i0 s.2.2.2.1 (s.2.2.2.1.length:Int) i s) (fun k i u=>rfl) ()
theorem akL(s:aV)(hs:s.2.2.2.1.length<=1000000)(e:Int):te s e=some (iv s e):=by
 obtain⟨k,hk⟩:=Hn
 have h1:=ams s hs
 unfold te UN iv
 dsimp only
 rw[show(List.length [e,(0:Int)]:Int)=2 from rfl]
 have step:∀(K i:Nat) (x:Int),i<2->List.getD [e,(0:Int)] i 0=x->Bf (K+1) [e,0] 2 (i:Int) s=match eQ s.2.2.2.1 x with
  |some v=>some (.inr v.2.1)
  |none=>Bf K [e,0] 2 ((i+1:Nat):Int) s:=by
  intro K i x hi hx
  conv=>lhs;unfold Bf Qu
  rw[zT (by omega),zC,show(List.length [e,(0:Int)])=2 from rfl,zk hi,Int.toNat_natCast,hx]
  dsimp only
  rw[h1,zc]
  cases eQ s.2.2.2.1 x with
  |some v=>rfl
  |none=>
   dsimp only
   rw[Sum.elim_inr]
   unfold UO
   dsimp only
   rw[zq (by omega)]
 have s0:=step (k+1+1) 0 e (by decide) rfl
 have s1:=step (k+1) 1 0 (by decide) rfl
 rw[show((0:Nat):Int)=0 from rfl] at s0
 rw[hk,s0]
 cases eQ s.2.2.2.1 e with
 |some v=>rfl
 |none=>
  dsimp only
  rw[s1]
  cases eQ s.2.2.2.1 0 with
  |some v=>rfl
  |none=>
   dsimp only
   unfold Bf Qu
   rw[zF (by decide)];rfl
def fA(l:List bg):List Int->bK->bK
 | [],o=>o
 |no::r,o=>fA l r (match eQ l no with
  |some v=>ey o no v.2.1
  |none=>o)
def sB(s:aV)(m:bK)(e:Int):bK:=ey (fA m.2.1 s.2.2.1 (dq m.1,[],())) 39 (iv s e)
def EF(s:aV)(m:bK)(f:bN):bK×Bool:=if dK m.1=true then(sB s m f.1,true) else(dw,false)
theorem zr9(m:bK)(no:Int)(t:ByteArray):(ey m no t).2.1.length<=m.2.1.length+1:=SR m no t
theorem zi0(l:List bg):∀(e:List Int) (o:bK),(fA l e o).2.1.length<=o.2.1.length+e.length
 | [],o=>Nat.le_refl _
 |no::r,o=>by
  rw[fA,List.length_cons]
  have h:=zi0 l r (match eQ l no with
   |some v=>ey o no v.2.1
   |none=>o)
  cases hx:eQ l no with
  |some v=>
   rw[hx] at h
   have:=zr9 o no v.2.1
   dsimp only at h⊢
   omega
  |none=>rw[hx] at h;dsimp only at h⊢;omega
theorem zi2{ρ:Type}(m:bK)(hm:m.2.1.length<=1000000)(fin:bK->Option ρ):∀(l:List Int) (i:Int) (o:bK),o.2.1.length+l.length<=1000000->
 bd (fun i (x:Int) (o:bK) K=>(nZ m x).bind fun r2=>(bif r2.2 then((ij o x r2.1).bind fun r3=>K r3) else K o)) fin l i o=fin (fA m.2.1 l o)
 | [],i,o,_=>rfl
 |x::r,i,o,h=>by
  rw[List.length_cons] at h
  rw[bd,akQ m x hm,zc,fA]
  cases hx:eQ m.2.1 x with
  |some v=>
   have:=zr9 o x v.2.1
   dsimp only
   rw[zC,SU o x _ (by omega),zc]
   exact zi2 m hm fin r (i+1) _ (by omega)
  |none=>exact zi2 m hm fin r (i+1) o (by omega)
theorem ahz(s:aV)(m:bK)(f:bN)(hs:cX s)(he:s.2.2.1.length<=300)(hm:eR m):tc s m f=some (EF s m f):=by
 have Ck:=hm.len
 unfold tc UE EF
 rw[acn m.1 (by rw[zh];exact hm.uC),zc]
 cases hr:dK m.1 with
 |false=>rfl
 |true=>
  rw[if_pos rfl,if_pos rfl,Bool.not_true,zD]
  dsimp only
  have hl:=cr (0:Int) s.2.2.1 (by rw[zh];omega) (fun i (x:Int) (o:bK) K=>(nZ m x).bind fun r2=>(bif r2.2 then((ij o x r2.1).bind fun r3=>K r3) else K o)) (fun o=>some (s,f,dw,o)) (fun k i o=>Qr k s.2.2.1 (s.2.2.1.length:Int) i s m f dw o) (fun k i o=>rfl) (dq m.1,[],())
  have hb:=zi0 m.2.1 s.2.2.1 (dq m.1,[],())
  rw[hl,zi2 m (by omega) _ _ _ _ (by simp;omega),zc]
  unfold UF
  dsimp only at hb⊢
  rw[akL s hs.fX,zc,SU _ _ _ (by rw[List.length_nil] at hb;omega),zc]
  rfl
theorem zuy{a:Spec}:∀{l:List bg} {prev:List Int} {i:Int},eX a prev l i=none->∀c∈l,bJ a c.2.1=0
 | [],_,_,_,c,hc=>by cases hc
 |x::r,prev,i,h,c,rX=>by
  rw[eX] at h
  by_cases hc:iu a prev x=0
  ·rw[zT hc,zC] at h
   rcases List.mem_cons.1 rX with rfl|rX
   ·unfold iu at hc
    cases h1:decide (c.1<0) with
    |true=>rw[h1] at hc;cases hc
    |false=>
     rw[h1,zD] at hc
     cases h2:decide (16<c.1) with
     |true=>rw[h2] at hc;cases hc
     |false=>
      rw[h2,zD] at hc
      cases h3:decide (c.1∈prev) with
      |true=>rw[h3] at hc;cases hc
      |false=>rw[h3,zD] at hc;exact hc
   ·exact zuy h c rX
  ·rw[zF hc] at h;cases h
structure tJ(s:aV):Prop where
 iH:(hP s.1).1=0
 act:bn s.1 39=true
 fX:∀c∈s.2.2.2.1,bJ (aY s.1 39) c.2.1=0
 zero:(0:Int)∈s.2.2.2.1.map fun c=>c.1
theorem z194{s:aV}(h:(fK s).1=0):tJ s:=by
 unfold fK at h
 by_cases h1:(hP s.1).1=0
 case neg=>rw[zF h1] at h;cases h
 rw[zT h1,Bool.not_true,zD] at h
 cases h2:bn s.1 39 with
 |false=>rw[h2] at h;cases h
 |true=>
  rw[h2,Bool.not_true,zD] at h
  have ne:∀{l:List Int} {prev:List Int} {i:Int} {e:Int×Int},gb s.1 prev l i=some e->e.1≠0:=by
   intro l
   induction l with
   |nil=>intro _ _ _ h;cases h
   |cons x r ih=>
    intro prev i e h
    rw[gb] at h
    by_cases hc:kb s.1 prev x=0
    ·rw[zT hc,zC] at h;exact ih h
    ·rw[zF hc,zD] at h;cases h;exact hc
  have nc:∀{l:List bg} {prev:List Int} {i:Int} {e:Int×Int},eX (aY s.1 39) prev l i=some e->e.1≠0:=by
   intro l
   induction l with
   |nil=>intro _ _ _ h;cases h
   |cons x r ih=>
    intro prev i e h
    rw[eX] at h
    by_cases hc:iu (aY s.1 39) prev x=0
    ·rw[zT hc,zC] at h;exact ih h
    ·rw[zF hc,zD] at h;cases h;exact hc
  cases h3:gb s.1 [] s.2.2.1 0 with
  |some e=>rw[h3] at h;exact absurd h (ne h3)
  |none=>
   rw[h3] at h
   dsimp only at h
   cases h4:eX (aY s.1 39) [] s.2.2.2.1 0 with
   |some e=>rw[h4] at h;exact absurd h (nc h4)
   |none=>
    rw[h4] at h
    dsimp only at h
    by_cases h5:(0:Int)∈s.2.2.2.1.map fun c=>c.1
    ·exact⟨h1,h2,zuy h4,h5⟩
    ·rw[zF h5] at h;cases h
theorem ajC{s:aV}(h:tJ s)(e:Int):bJ (aY s.1 39) (iv s e)=0:=by
 unfold iv
 cases h1:eQ s.2.2.2.1 e with
 |some c=>exact h.fX c (List.mem_of_find?_eq_some h1)
 |none=>
  cases h2:eQ s.2.2.2.1 0 with
  |some c=>exact h.fX c (List.mem_of_find?_eq_some h2)
  |none=>
   obtain⟨c,hc,h0⟩:=List.mem_map.1 h.zero
   have:=List.find?_eq_none.1 h2 c hc
   exact absurd (zT h0) this
theorem LC(l:List bg):∀(e:List Int) (o:bK) (v:bg),v∈(fA l e o).2.1->v∈o.2.1\/v∈l
 | [],o,v,h=> .inl h
 |no::r,o,v,h=>by
  rw[fA] at h
  rcases LC l r _ v h with h|h
  ·cases hx:eQ l no with
   |none=>rw[hx] at h;exact .inl h
   |some w=>
    rw[hx] at h
    rcases(SS o no w.2.1 v).1 h with e|⟨h,_⟩
    ·have hw:=List.find?_some hx
     have hw:w.1=no:=by simpa using hw
     right
     rw[e,<-hw]
     exact List.mem_of_find?_eq_some hx
    ·exact .inl h
  ·exact .inr h
theorem zi1(l:List bg):∀(e:List Int) (o:bK),jK o.2.1->jK (fA l e o).2.1/\(fA l e o).1=o.1
 | [],o,h=>⟨h,rfl⟩
 |no::r,o,h=>by
  rw[fA]
  cases hx:eQ l no with
  |none=>exact zi1 l r o h
  |some w=>
   obtain⟨h1,h2⟩:=zi1 l r (ey o no w.2.1) (zj2 h no w.2.1)
   exact⟨h1,h2⟩
structure Part(s:zf)(m:bK):Prop where
 head:fQ m.1=true->gB m.1=s.2.1
 uC:m.1.size<=1000
 len:m.2.1.length<=200
 jD:∀v∈m.2.1,bn s v.1=true/\bJ (aY s v.1) v.2.1=0/\v.2.1.size<=999
theorem Part.ok{s:zf}{m:bK}(h:Part s m):eR m:=⟨by have:=h.uC;omega,by have:=h.len;omega,fun v hv=>by have:=(h.jD v hv).2.2;omega⟩
theorem MQ{s:aV}(hk:tJ s)(ho:cX s)(he:s.2.2.1.length<=300){m:bK}(hm:Part s.1 m)(e:Int)(hr:dK m.1=true):gR s.1 (sB s m e)/\im (sB s m e)/\dK (sB s m e).1=false:=by
 obtain⟨r1,r2,r3⟩:=amT hr
 obtain⟨b1,b2⟩:=zi1 m.2.1 s.2.2.1 (dq m.1,[],()) List.Pairwise.nil
 have xq:(sB s m e).1=dq m.1:=b2
 have ok:=(xX s.1).1 hk.iH
 have hc:=ajC hk e
 have eD:(iv s e).size<=1099511627776:=by
  unfold iv
  split
  ·rename_i c h;exact ho.si c (List.mem_of_find?_eq_some h)
  ·split
   ·rename_i c h;exact ho.si c (List.mem_of_find?_eq_some h)
   ·exact Nat.zero_le _
 have hf:∀v∈(sB s m e).2.1,bn s.1 v.1=true/\bJ (aY s.1 v.1) v.2.1=0/\v.2.1.size<=999:=fun v hv=>by
  rcases(SS _ _ _ v).1 hv with rfl|⟨hv,_⟩
  ·obtain⟨v1,v2,v3,_,_⟩:=(P1 _ _ eD).1 hc
   have:=V9 v1
   exact⟨hk.act,hc,by dsimp only;omega⟩
  ·rcases LC _ _ _ v hv with hv|hv
   ·cases hv
   ·exact hm.jD v hv
 have Cp:jK (sB s m e).2.1:=zj2 b1 39 (iv s e)
 refine⟨⟨hk.iH,by rw[xq];exact r1,by rw[xq,r2];exact hm.head (SQ hr).1,A3.2 ⟨fun v hv=>⟨(hf v hv).1,(hf v hv).2.1⟩,Cp,fun v hv=>by have:=OC ok (hf v hv).1;omega⟩⟩,⟨by rw[xq];have:=(oO.1 r1).1;omega,?_,fun v hv=>by have:=(hf v hv).2.2;omega⟩,by rw[xq];exact r3⟩
 have h1:=zi0 m.2.1 s.2.2.1 (dq m.1,[],())
 have h2:=zr9 (fA m.2.1 s.2.2.1 (dq m.1,[],())) 39 (iv s e)
 unfold sB
 dsimp only[List.length_nil] at h1
 omega
theorem Lv(s:zf)(b:ByteArray)(hb:b.size<=1099511627776):∀(r:List Int) (a:Nat) (o:List bg),(∀v∈o,bn s v.1=true/\bJ (aY s v.1) v.2.1=0/\v.2.1.size<=999)->(∀v∈(ix s b r a o).1,bn s v.1=true/\bJ (aY s v.1) v.2.1=0/\v.2.1.size<=999)/\(ix s b r a o).1.length<=o.length+r.length
 | [],a,o,h=>⟨h,Nat.le_refl _⟩
 |no::r,a,o,h=>by
  rw[ix]
  split
  ·exact⟨h,Nat.le_add_right _ _⟩
  ·rename_i hf
   have hf:bn s no=true:=by cases hh:bn s no with
    |true=>rfl
    |false=>exact absurd hh hf
   split
   ·exact⟨h,Nat.le_add_right _ _⟩
   ·rename_i hz
    generalize hg:oP s.1 (aY s no) b (a:Int)=g at hz⊢
    obtain⟨t,z,e⟩:=g
    dsimp only at hz⊢
    have he:e=0:=Classical.byContradiction fun hn=>hz hn
    subst he
    obtain⟨c1,c2,c3,c4,c5,c6⟩:=zdm hb hg
    have h2:∀v∈o++ [((no,t,()):bg)],bn s v.1=true/\bJ (aY s v.1) v.2.1=0/\v.2.1.size<=999:=fun v hv=>by
     rcases List.mem_append.1 hv with hv|hv
     ·exact h v hv
     ·rw[List.mem_singleton.1 hv];exact⟨hf,c2,c5⟩
    obtain⟨i1,i2⟩:=Lv s b hb r z.toNat _ h2
    rw[List.length_append,List.length_singleton] at i2
    exact⟨i1,by rw[List.length_cons];omega⟩
theorem AQ(s:zf):Part s dw:=⟨fun h=>(by cases h),Nat.zero_le _,Nat.zero_le _,fun v hv=>(by cases hv)⟩
theorem MU(s:zf)(b:ByteArray)(hb:b.size<=1099511627776):Part s (eC s b).1:=by
 unfold eC
 split
 ·exact AQ s
 cases ht:kX s b with
 |inl e=>exact AQ s
 |inr q=>
  unfold kX at ht
  split at ht
  ·cases ht
  split at ht
  case isFalse=>cases ht
  rename_i hr
  injection ht with ht
  subst ht
  have h4:=(oO.1 hr.1).1
  show Part s (rh s b (gA s.1 b) _).1
  unfold rh
  split
  ·exact⟨fun _=>hr.2,by dsimp only;omega,Nat.zero_le _,fun v hv=>by cases hv⟩
  ·obtain⟨p1,p2⟩:=Lv s b hb (elems (cL s.1 b (fM s.1)).1 (cL s.1 b (fM s.1)).2.1) (cL s.1 b (fM s.1)).2.2.1.toNat [] (fun v hv=>by cases hv)
   have:=S4 (cL s.1 b (fM s.1)).1 (cL s.1 b (fM s.1)).2.1
   rw[List.length_nil] at p2
   exact⟨fun _=>hr.2,by dsimp only;omega,by dsimp only;omega,p1⟩
def gG(p:aV)(n:Int)(m:bK)(f:bN):Int×ByteArray:=
 if dK m.1=true then(if n<((fG p.1 (sB p m f.1)).size:Int) then(3,bs []) else(2,fG p.1 (sB p m f.1))) else(3,bs [])
def rG(p q:aV)(n:Int)(m:bK)(t:bK×bN):Int×ByteArray:=
 if¬t.2.1=0 then gG p n m t.2 else if n<((fG q.1 t.1).size:Int) then gG p n m (5,129,()) else(1,fG q.1 t.1)
def rF(p q:aV)(n:Int)(d:bK×bN):Int×ByteArray:=if¬d.2.1=0 then gG p n d.1 d.2 else rG p q n d.1 (nD p.2.1 p.1 q.1 d.1)
def eF(p q:aV)(n:Int)(b:ByteArray):Int×ByteArray:=rF p q n (eC p.1 b)
structure nT(p q:aV)(n:Int):Prop where
 n1:1<=n
 n2:n<=65535
 rp:(fK p).1=0
 rq:(fK q).1=0
 mp:(dB p.2.1 p.1 q.1).1=0
 mq:(dB q.2.1 q.1 p.1).1=0
theorem nT.symm{p q:aV}{n:Int}(h:nT p q n):nT q p n:=⟨h.n1,h.n2,h.rq,h.rp,h.mq,h.mp⟩
theorem ct.symm{p q:aV}(h:ct p q):ct q p:=⟨h.sq,h.sp,h.qm,h.pm,h.CH,h.CE,h.qe,h.pe,h.qml,h.pml,h.abu,h.abt⟩
theorem PU{p q:aV}{n:Int}:(eW p q n).1=0↔nT p q n:=by
 unfold eW
 by_cases h1:n<1
 ·rw[zT h1];exact⟨fun h=>(by cases h),fun h=>by have:=h.n1;omega⟩
 by_cases h2:65535<n
 ·rw[zF h1,zT h2];exact⟨fun h=>(by cases h),fun h=>by have:=h.n2;omega⟩
 rw[zF h1,zF h2,zD,zD]
 by_cases h3:(fK p).1=0
 case neg=>rw[zF h3];exact⟨fun h=>absurd h h3,fun h=>absurd h.rp h3⟩
 rw[zT h3,Bool.not_true,zD]
 by_cases h4:(dB p.2.1 p.1 q.1).1=0
 case neg=>rw[zF h4];exact⟨fun h=>absurd h h4,fun h=>absurd h.mp h4⟩
 rw[zT h4,Bool.not_true,zD]
 by_cases h5:(fK q).1=0
 case neg=>rw[zF h5];exact⟨fun h=>absurd h h5,fun h=>absurd h.rq h5⟩
 rw[zT h5,Bool.not_true,zD]
 by_cases h6:(dB q.2.1 q.1 p.1).1=0
 case neg=>rw[zF h6];exact⟨fun h=>absurd h h6,fun h=>absurd h.mq h6⟩
 rw[zT h6]
 exact⟨fun _=>⟨by omega,by omega,h3,h5,h4,h6⟩,fun _=>rfl⟩
theorem zqp{s:zf}{m:bK}(h:gR s m):2<=(fG s m).size:=by
 have ho:=(xX s).1 h.iH
 have:=(ahm (s:=s) ho.1 (m:=m.1) (y:=bs []) h.right).2
 have hz:2<=fM s.1:=by unfold fM;split<;>omega
 unfold fG
 rw[Bc,Bc]
 omega
theorem OU{s:zf}{m:bK}(h:gR s m):qz s m=(fG s m,jb):=by
 unfold qz
 rw[if_pos (PY.2 h)]
theorem Mu{p q:aV}(h:ct p q){m:bK}(hm:eR m)(ht:(nD p.2.1 p.1 q.1 m).2.1=0):gR q.1 (nD p.2.1 p.1 q.1 m).1/\eR (nD p.2.1 p.1 q.1 m).1:=by
 rcases zp2 p.2.1 p.1 q.1 m with⟨f,hf,e⟩|⟨ys,hd,e⟩
 ·rw[e] at ht;exact absurd ht hf
 ·rw[e];exact⟨hd.out h.pm hm,hd.ok h.pm hm⟩
section
variable {p q:aV} {n:Int} (h:ct p q) (h0:nT p q n)
include h h0
theorem Dw{m:bK}(hm:Part p.1 m)(f:bN)(cl:List aV):kK m f p (cl,n,())=some (gG p n m f):=by
 unfold kK UW gG
 rw[ahz p m f h.sp h.pe hm.ok,zc]
 unfold EF
 cases hr:dK m.1 with
 |false=>rfl
 |true=>
  obtain⟨b1,b2,_⟩:=MQ (z194 h0.rp) h.sp h.pe hm f.1 hr
  have hp:=zqp b1
  rw[if_pos rfl,if_pos rfl]
  dsimp only
  rw[Bool.not_true,zD,Ld p.1 _ h.sp.iH b2.ok,zc,OU b1]
  dsimp only
  rw[zF (fun e=>by rw[e] at hp;exact absurd hp (by decide)),zD]
  by_cases hn:n<((fG p.1 (sB p m f.1)).size:Int)
  ·rw[zT hn,if_pos hn];rfl
  ·rw[zF hn,if_neg hn];rfl
theorem Ps(b:ByteArray)(hb:b.size<=1099511627776)(cl:List aV):((qQ p.1 b).bind fun r2=>(bif(!(decide (r2.2.1=(0:Int)))) then((kK r2.1 r2.2 p (cl,n,())).bind fun r3=>some (r3.1,r3.2)) else((qS p.2.1 p.1 q.1 r2.1).bind fun r4=>(bif(!(decide (r4.2.1=(0:Int)))) then((kK r2.1 r4.2 p (cl,n,())).bind fun r5=>some (r5.1,r5.2)) else((n7 q.1 r4.1).bind fun r6=>(bif(decide (n<((r6.1).size:Int))) then((kK r2.1 ((5:Int),(129:Int),()) p (cl,n,())).bind fun r7=>some (r7.1,r7.2)) else some ((1:Int),r6.1)))))))=some (eF p q n b):=by
 have kF:=MU p.1 b hb
 have fm:=kF.ok
 rw[ad2 p.1 b h.sp.iH hb,zc]
 unfold eF rF
 by_cases hd:(eC p.1 b).2.1=0
 case neg=>rw[zF hd,Bool.not_false,zC,if_pos hd,Dw h h0 kF,zc]
 rw[zT hd,Bool.not_true,zD,if_neg (fun e=>e hd),abV p.2.1 p.1 q.1 _ h.pm (by have:=h.pml;omega) fm (by have:=kF.len;omega) h.sp.iH h.sq.iH,zc]
 unfold rG
 by_cases ht:(nD p.2.1 p.1 q.1 (eC p.1 b).1).2.1=0
 case neg=>rw[zF ht,Bool.not_false,zC,if_pos ht,Dw h h0 kF,zc]
 obtain⟨t1,t2⟩:=Mu h fm ht
 rw[zT ht,Bool.not_true,zD,if_neg (fun e=>e ht),Ld q.1 _ h.sq.iH t2,zc,OU t1]
 dsimp only
 by_cases hn:n<((fG q.1 (nD p.2.1 p.1 q.1 (eC p.1 b).1).1).size:Int)
 ·rw[zT hn,zC,if_pos hn,Dw h h0 kF,zc]
 ·rw[zF hn,zD,if_neg hn]
end
def fu(p q:aV)(n link:Int)(b:ByteArray):Int×ByteArray:=
 if¬(eW p q n).1=0 then(0,bs []) else if link=0 then eF p q n b else if link=1 then eF q p n b else(0,bs [])
theorem ac0(p q:aV)(n link:Int)(b:ByteArray)(h:ct p q)(hb:b.size<=1099511627776):ti ([p,q],n,()) link b=some (fu p q n link b):=by
 unfold ti UU fu
 rw[ze5 p q n h,zc]
 by_cases hc:(eW p q n).1=0
 case neg=>rw[zF hc,if_pos hc];rfl
 have h0:=PU.1 hc
 rw[zT hc,Bool.not_true,zD,if_neg (fun e=>e hc)]
 by_cases l0:link=0
 ·subst l0
  rw[if_pos rfl,zF (by decide),zD,zF (by decide),zD]
  simp only[uU,uV,xU,F3,F4]
  exact Ps h h0 b hb [p,q]
 ·rw[if_neg l0]
  by_cases l1:link=1
  ·subst l1
   rw[if_pos rfl,zF (by decide),zD,zF (by decide),zD]
   simp only[uU,uV,xV,F3,F4]
   exact Ps h.symm h0.symm b hb [p,q]
  ·rw[if_neg l1]
   by_cases l2:link<0
   ·rw[zT l2];rfl
   ·rw[zF l2,zD,zT (by omega)];rfl
theorem ac4(p q:aV)(n:Int)(h:ct p q):sT ([p,q],n,())=some (decide ((eW p q n).1=0)):=by
 unfold sT TZ
 rw[acV p q n h,zc]
theorem ami{c:qD}(hc:Wf Wd c):∃p q n,c=([p,q],n,())/\∃g,mJ c=some g/\(g=false->ct p q):=by
 obtain⟨p,q,e⟩:=ahl hc.1.1
 obtain⟨cl,n,u⟩:=c
 simp only[Prod.mk.injEq] at e
 obtain⟨rfl,_⟩:=e
 obtain⟨g,hg,fm⟩:=adw (p:=p) (q:=q) hc
 exact⟨p,q,n,rfl,g,hg,fm⟩
end bp

namespace bp
open Go.IntKind renaming wrap->zW,i64->zI,u8->zU
open Go Go.Ref
theorem OW(m:Int):HZ m=some (if m<1\/65535<m then .inl 5 else .inr (0,(m,false,[],()))):=by
 unfold HZ Xx
 by_cases h1:m<1
 ·simp [h1]
 ·by_cases h2:65535<m<;>simp [h1,h2]
def bk(m:Int)(l:List Int):Bool×List Int×List ByteArray:=l.foldl (aN m) (false,[],[])
theorem ajS(m:Int)(l:List Int):∀(d:Bool) (b:List Int) (o:List ByteArray),l.foldl (aN m) (d,b,o)=((l.foldl (aN m) (d,b,[])).1,(l.foldl (aN m) (d,b,[])).2.1,o++(l.foldl (aN m) (d,b,[])).2.2):=by
 induction l with
 |nil=>intro d b o;simp
 |cons c r ih=>
  intro d b o
  rw[List.foldl_cons,List.foldl_cons]
  have h:aN m (d,b,o) c=((aN m (d,b,[]) c).1,(aN m (d,b,[]) c).2.1,o++(aN m (d,b,[]) c).2.2):=by
   unfold aN
   simp only
   split
   ·simp
   ·split
    ·simp
    ·split<;>simp
  rw[h,ih]
  generalize aN m (d,b,[]) c=st
  obtain⟨d',b',o'⟩:=st
  rw[ih d' b' o']
  simp
theorem agq(m:Int)(n:Nat)(r:List Int):∀(w:List Int) (o:List ByteArray),2<=w.length->cG w=n->w.length<2+n->
 r.foldl (aN m) (false,w,o)=if r.length<2+n-w.length then(false,w++r,o) else(r.drop (2+n-w.length)).foldl (aN m) (false,[],o++ [strOf ((w++r.take (2+n-w.length)).drop 2)]):=by
 induction r with
 |nil=>intro w o h1 h2 h3;simp;omega
 |cons c r ih=>
  intro w o h1 h2 h3
  rw[List.foldl_cons]
  have di:cG (w++ [c])=n:=by
   rw[<-h2]
   unfold cG
   rw[if_neg (by simp;omega),if_neg (by omega)]
   have e:∀i,i<w.length->(w++ [c]).getD i 0=w.getD i 0:=fun i hi=>by
    rw[List.getD_eq_getElem?_getD,List.getElem?_append_left hi,List.getD_eq_getElem?_getD]
   rw[e 0 (by omega),e 1 (by omega)]
  have hlen:(w++ [c]).length=w.length+1:=by simp
  have hf:aN m (false,w,o) c=if w.length+1=2+n then(false,[],o++ [strOf ((w++ [c]).drop 2)]) else(false,w++ [c],o):=by
   unfold aN
   simp only[di,hlen]
   rw[if_neg (by simp),if_neg (by omega)]
   by_cases e:w.length+1=2+n
   ·rw[if_pos e,if_pos ⟨by omega,by omega⟩]
   ·rw[if_neg e,if_neg (by omega)]
  rw[hf]
  by_cases e:w.length+1=2+n
  ·rw[if_pos e,if_neg (by simp;omega)]
   have:2+n-w.length=1:=by omega
   rw[this]
   simp
  ·rw[if_neg e,ih (w++ [c]) o (by simp;omega) di (by simp;omega),hlen]
   have e2:2+n-w.length=(2+n-(w.length+1))+1:=by omega
   rw[e2]
   by_cases e3:r.length<2+n-(w.length+1)
   ·rw[if_pos e3,if_pos (by simp;omega)]
    simp
   ·rw[if_neg e3,if_neg (by simp;omega)]
    simp
theorem z182(m:Int):∀(n:Nat) (l:List Int) (pos:Int) (o:List ByteArray),l.length<=n->0<=pos->(∀x∈l,zm x)->
 l.foldl (aN m) (false,[],o)=(decide (0<=(cT m pos l).2.2.2),(cT m pos l).2.1,o++(cT m pos l).1):=by
 intro n
 induction n using Nat.strongRecOn with
 |_ n ih=>
 intro l pos o hn hp hb
 rw[cT]
 by_cases c0:l.length<2
 ·rw[dif_pos c0]
  match l,c0 with
  | [],_=>simp
  | [x],_=>simp [aN,cG]
 rw[dif_neg c0]
 match l,c0 with
 | [],c0=>exact absurd (by simp) c0
 | [x],c0=>exact absurd (by simp) c0
 |x::y::r,c0=>
  have hz:=GC hb
  have AE:cG [x,y]=cG (x::y::r):=by
   unfold cG;rw[if_neg (by simp),if_neg (by simp)];rfl
  have h1:aN m (false,[],o) x=(false,[x],o):=by simp [aN,cG]
  rw[List.foldl_cons,List.foldl_cons,h1]
  have h2:aN m (false,[x],o) y=if cG (x::y::r)=0\/m<cG (x::y::r) then(true,[],o) else(false,[x,y],o):=by
   unfold aN
   have e1:([x]:List Int)++ [y]=[x,y]:=rfl
   simp only[e1,AE]
   rw[if_neg (by simp)]
   by_cases c1:cG (x::y::r)=0\/m<cG (x::y::r)
   ·rw[if_pos ⟨rfl,c1⟩,if_pos c1]
   ·rw[if_neg (fun h=>c1 h.2),if_neg c1,if_neg]
    intro h
    have:(([x,y]:List Int).length:Int)=2:=rfl
    omega
  rw[h2]
  by_cases c1:cG (x::y::r)=0\/m<cG (x::y::r)
  ·rw[if_pos c1,if_pos c1,Gv]
   have:(0:Int)<=pos+2:=by omega
   simp [this]
  ·rw[if_neg c1,if_neg c1]
   generalize hzz:cG (x::y::r)=z at*
   have R9:0<z:=by omega
   rw[agq m z.toNat r [x,y] o (by simp) (by rw[AE];omega) (by simp;omega)]
   have e0:2+z.toNat-([x,y]:List Int).length=z.toNat:=by simp
   rw[e0]
   by_cases c3:((x::y::r).length:Int)-2<z
   ·rw[if_pos c3,if_pos (by simp at c3;omega)]
    simp
   ·rw[if_neg c3,if_neg (by simp at c3;omega)]
    have hd:(x::y::r).drop (2+z.toNat)=r.drop z.toNat:=by
     rw[Nat.add_comm];rfl
    have ht:((x::y::r).drop 2).take z.toNat=r.take z.toNat:=rfl
    have ht2:([x,y]++r.take z.toNat).drop 2=r.take z.toNat:=rfl
    rw[hd,ht,ht2]
    rw[ih (n-2) (by simp at hn;omega) (r.drop z.toNat) (pos+2+z) _ (by simp at hn⊢;omega) (by omega) (fun x hx=>hb x (by simp;exact .inr (.inr (List.mem_of_mem_drop hx))))]
    simp
theorem akt(m:Int)(l:List Int)(hb:∀x∈l,zm x):bk m l=(decide (0<=(cT m 0 l).2.2.2),(cT m 0 l).2.1,(cT m 0 l).1):=by
 unfold bk;rw[z182 m l.length l 0 [] (Nat.le_refl _) (by omega) hb];simp
theorem zox(m:Int)(a b:List Int):bk m (a++b)=((b.foldl (aN m) ((bk m a).1,(bk m a).2.1,[])).1,(b.foldl (aN m) ((bk m a).1,(bk m a).2.1,[])).2.1,(bk m a).2.2++(b.foldl (aN m) ((bk m a).1,(bk m a).2.1,[])).2.2):=by
 unfold bk
 rw[List.foldl_append]
 generalize a.foldl (aN m) (false,[],[])=st
 obtain⟨d,c,o⟩:=st
 rw[ajS]
def dJ(m:Int)(l:List Int):Fr:=(m,(bk m l).1,(bk m l).2.1,())
theorem ago(m:Int)(a b:List Int):feed (dJ m a) b=((b.foldl (aN m) ((bk m a).1,(bk m a).2.1,[])).2.2,decide ((bk m (a++b)).1=true/\(bk m a).1=false),dJ m (a++b)):=by
 unfold feed dJ
 rw[zox]
theorem adu(m:Int)(st:Bool×List Int×List ByteArray)(c:Int)(hc:zm c)(h:(∀x∈st.2.1,zm x)):∀x∈(aN m st c).2.1,zm x:=by
 unfold aN
 split
 ·exact h
 ·split
  ·simp
  ·split
   ·simp
   ·intro x hx
    rcases List.mem_append.1 hx with hx|hx
    ·exact h x hx
    ·simp at hx;subst hx;exact hc
theorem agp(m:Int)(l:List Int):∀(st:Bool×List Int×List ByteArray),(∀x∈l,zm x)->(∀x∈st.2.1,zm x)->∀x∈(l.foldl (aN m) st).2.1,zm x:=by
 induction l with
 |nil=>intro st _ h;exact h
 |cons c r ih=>intro st hl h;exact ih _ (fun x hx=>hl x (by simp [hx])) (adu m st c (hl c (by simp)) h)
theorem ag5(m:Int)(l:List Int)(h:∀x∈l,zm x):∀x∈(bk m l).2.1,zm x:=agp m l _ h (by simp)
theorem S5(m:Int)(l:List Int):∀(st:Bool×List Int×List ByteArray),(l.foldl (aN m) st).2.1.length<=st.2.1.length+l.length/\(l.foldl (aN m) st).2.2.length<=st.2.2.length+l.length:=by
 induction l with
 |nil=>intro st;simp
 |cons c r ih=>
  intro st
  have h:(aN m st c).2.1.length<=st.2.1.length+1/\(aN m st c).2.2.length<=st.2.2.length+1:=by
   unfold aN
   split
   ·omega
   ·split
    ·simp
    ·split<;>simp
  have:=ih (aN m st c)
  simp only[List.foldl_cons,List.length_cons]
  omega
theorem zr1(m:Int)(l:List Int):(bk m l).2.1.length<=l.length/\(bk m l).2.2.length<=l.length:=by
 have:=S5 m l (false,[],[])
 simpa [bk] using this
theorem ab7(m:Int)(a:List Int)(s:ByteArray)(ha:∀x∈a,zm x)(h:a.length+s.size<=4398046511104):BD (dJ m a) s=some (((bl s).foldl (aN m) ((bk m a).1,(bk m a).2.1,[])).2.2,decide ((bk m (a++bl s)).1=true/\(bk m a).1=false),dJ m (a++bl s)):=by
 rw[amA _ _ (ag5 m a ha) (by have:=(zr1 m a).1;simp only[dJ];omega),ago]
theorem ajT(p:ByteArray)(h:p.size<=70000):BE p=some (if p.size<1\/65535<p.size then(bs [],5) else(strOf [(p.size:Int)/256,(p.size:Int)% 256]++p,0)):=by
 unfold BE Xy
 by_cases h1:p.size<1
 ·rw[zT (by omega),if_pos (.inl h1)];rfl
 rw[zF (by omega),zD]
 by_cases h2:65535<p.size
 ·rw[zT (by omega),if_pos (.inr h2)];rfl
 rw[zF (by omega),if_neg (by omega),uY,zT (by simp;omega)]
 have e1:zW zU (Int.fdiv (p.size:Int) (2^min ((8:Int)).toNat 64))=(p.size:Int)/256:=by
  rw[Int.fdiv_eq_ediv_of_nonneg _ (by decide),EN]
  have:((2:Int)^min ((8:Int)).toNat 64)=256:=by decide
  rw[this];omega
 have e2:zW zU (p.size:Int)=(p.size:Int)% 256:=EN _
 rw[e1,e2];rfl
section
variable {m:Map} {a b:zf} {x:bK} {ys:List bg}
end
end bp

namespace bp
open Go.IntKind renaming wrap->zW,i64->zI,u8->zU
open Go Go.Ref
theorem zhf(p:aV)(n:Int)(m:bK)(f:bN):(gG p n m f).1≠1/\(dK m.1=false->(gG p n m f).1≠2):=by
 unfold gG
 split
 ·rename_i hr
  split
  ·exact⟨by decide,fun _=>by decide⟩
  ·exact⟨show(2:Int)≠1 by decide,fun h=>by rw[hr] at h;cases h⟩
 ·exact⟨by decide,fun _=>by decide⟩
section
variable {p q:aV} {n:Int} (h:ct p q) (h0:nT p q n)
include h
theorem aos{b s:ByteArray}(hb:b.size<=1099511627776)(ho:eF p q n b=(1,s)):∃m x,gR p.1 m/\im m/\fG p.1 m=b/\nD p.2.1 p.1 q.1 m=(x,jb)/\gR q.1 x/\im x/\s=fG q.1 x/\(s.size:Int)<=n:=by
 unfold eF rF at ho
 split at ho
 ·have:=(zhf p n (eC p.1 b).1 (eC p.1 b).2).1
  rw[ho] at this;exact absurd rfl this
 rename_i hd
 have hd:(eC p.1 b).2.1=0:=Classical.byContradiction hd
 obtain⟨d1,d2,d3,d4⟩:=aga (m:=(eC p.1 b).1) (f:=(eC p.1 b).2) hb rfl hd
 unfold rG at ho
 split at ho
 ·have:=(zhf p n (eC p.1 b).1 (nD p.2.1 p.1 q.1 (eC p.1 b).1).2).1
  rw[ho] at this;exact absurd rfl this
 rename_i ht
 have ht:(nD p.2.1 p.1 q.1 (eC p.1 b).1).2.1=0:=Classical.byContradiction ht
 split at ho
 ·have:=(zhf p n (eC p.1 b).1 (5,129,())).1
  rw[ho] at this;exact absurd rfl this
 rename_i hn
 obtain⟨t1,t2⟩:=Mu h d3.ok ht
 have he:(nD p.2.1 p.1 q.1 (eC p.1 b).1).2=jb:=by
  rcases zp2 p.2.1 p.1 q.1 (eC p.1 b).1 with⟨f,hf,e⟩|⟨ys,_,e⟩
  ·rw[e] at ht;exact absurd ht hf
  ·rw[e]
 injection ho with _ ho
 exact⟨_,_,d2,d3,d4,Prod.ext rfl he,t1,zvv t2 t1,ho.symm,by rw[<-ho];omega⟩
include h0
theorem aoD{b s:ByteArray}(hb:b.size<=1099511627776)(ho:eF p q n b=(2,s)):∃x,gR p.1 x/\im x/\dK x.1=false/\s=fG p.1 x/\(s.size:Int)<=n:=by
 have kF:=MU p.1 b hb
 have YM:∀(f:bN),gG p n (eC p.1 b).1 f=(2,s)->∃x,gR p.1 x/\im x/\dK x.1=false/\s=fG p.1 x/\(s.size:Int)<=n:=fun f hf=>by
  unfold gG at hf
  split at hf
  ·rename_i hr
   obtain⟨b1,b2,b3⟩:=MQ (z194 h0.rp) h.sp h.pe kF f.1 hr
   split at hf
   ·cases hf
   ·rename_i hn
    injection hf with _ hf
    exact⟨_,b1,b2,b3,hf.symm,by rw[<-hf];omega⟩
  ·cases hf
 unfold eF rF at ho
 split at ho
 ·exact YM _ ho
 unfold rG at ho
 split at ho
 ·exact YM _ ho
 split at ho
 ·exact YM _ ho
 ·cases ho
end
end bp

namespace bp
open Go.IntKind renaming wrap->zW,i64->zI,u8->zU
open Go Go.Ref
abbrev fj:=Int×Int×ByteArray×Int×Unit
abbrev Gw:=qD×(Option Fr×Option Fr)×Int
def CD(i:Int)(x:aW)(s:List aW)(K:List aW->Option (List aW×aV×aV)):Option (List aW×aV×aV):=
 bif(decide (x.2.2.2.2.1.length*32<=140737488355328)) then(bif(decide ((s.length+(List.length ([(x.1,x.2.1,x.2.2.1,x.2.2.2.1,x.2.2.2.2.1,())]:List aW)))*64<=140737488355328)) then K (s++ [(x.1,x.2.1,x.2.2.1,x.2.2.2.1,x.2.2.2.2.1,())]) else none) else none
theorem OG(b1 b2:aV):∀(l:List aW) (i:Int) (s:List aW),(∀r∈l,dW r)->s.length+l.length<=1000000->bd CD (fun s=>some (s,b1,b2)) l i s=some (s++l,b1,b2)
 | [],i,s,_,_=>by rw[List.append_nil];rfl
 |x::l,i,s,h,hl=>by
  have hp:=(h x (by simp)).fh.len
  simp only[List.length_cons] at hl
  rw[bd,CD,zT (by omega),zC,zT (by simp only[List.length_cons,List.length_nil];omega),zC,OG b1 b2 l (i+1) _ (fun r hr=>h r (by simp [hr])) (by simp;omega)]
  rw[List.append_assoc];rfl
theorem Pp(s:aV)(h:cX s)(hm:dL s.2.1)(h2:s.1.2.2.1.length<=200):H9 s=some s:=by
 have he:=h.oh
 have hc:=h.fX
 have hl:=hm.len
 have ht:=hm.nr.len
 unfold H9 XI
 rw[zT (by omega),zC,zT (by omega),zC,zT (by omega),zC,zT (by omega),zC]
 have:=cr ((0:Int),(0:Int),(0:Int),bs [],([]:List bD),()) s.2.1.2.1 (by rw[zh];omega) CD (fun l=>some (l,(s.1,s.2.1,s.2.2.1,s.2.2.2.1,()),qx))
  (fun k i l=>Rg k l s.2.1.2.1 (s.2.1.2.1.length:Int) i (s.1,s.2.1,s.2.2.1,s.2.2.2.1,()) qx) (fun k i l=>rfl) []
 dsimp only
 refine(congrArg (fun o=>Option.bind o _) (this.trans (OG _ _ s.2.1.2.1 0 [] hm.rules (by simp;omega)))).trans ?_
 rw[zc,List.nil_append]
 unfold XJ
 rw[zT (by show s.2.2.1.length*8<=_;omega),zC,zT (by show s.2.2.2.1.length*24<=_;omega),zC]
def gw(c:qD)(n:Int)(x y:ByteArray)(d:Int):Gw:=(c,(some (dJ n (bl x)),some (dJ n (bl y))),d)
theorem ahE(p q:aV)(n:Int)(h:ct p q):yw ([p,q],n,())=some (if(eW p q n).1=0 then .inr (0,gw ([p,q],n,()) n (bs []) (bs []) 0) else .inl 1):=by
 obtain⟨k,hk⟩:=Hn
 unfold yw XF
 rw[ze5 p q n h,zc]
 by_cases h0:(eW p q n).1=0
 case neg=>rw[zF h0,if_neg h0];rfl
 rw[zT h0,if_pos h0,Bool.not_true,zD,hk]
 have hc:=PU.1 h0
 have hn:¬(n<1\/65535<n):=fun e=>by have:=hc.n1;have:=hc.n2;omega
 unfold FH Hd
 simp only[uU,uV,xU,xV,xT,xW,gp,gq,F3,F4,qv,qw]
 rw[zT (by decide:(0:Int)<2),zC,Pp p h.sp h.pm h.CE,zc,OW,zc,if_neg hn,Sum.elim_inr]
 dsimp only
 unfold FH Hd
 simp only[uU,uV,xU,xV,xT,xW,gp,gq,F3,F4,qv,qw]
 rw[zT (by decide:(1:Int)<2),zC,Pp q h.sq h.qm h.CH,zc,OW,zc,if_neg hn,Sum.elim_inr]
 dsimp only
 unfold FH Hd
 rw[zF (by decide:¬(2:Int)<2),zD]
 rfl
abbrev Ev:=Int×ByteArray×Unit
abbrev Item:=Int×Option ByteArray
def rH(b:ByteArray):ByteArray:=if b.size<1\/65535<b.size then bs [] else strOf [(b.size:Int)/256,(b.size:Int)% 256]++b
theorem agr(b:ByteArray)(h:b.size<=70000):∃e,BE b=some (rH b,e):=by
 rw[ajT b h]
 unfold rH
 by_cases hb:b.size<1\/65535<b.size
 ·rw[if_pos hb,if_pos hb];exact⟨_,rfl⟩
 ·rw[if_neg hb,if_neg hb];exact⟨_,rfl⟩
theorem zhg{n:Int}(hn:n<=65535)(p:aV)(m:bK)(f:bN):(gG p n m f).2.size<=65535:=by
 unfold gG
 split
 ·split
  ·exact Nat.zero_le _
  ·rename_i h
   show(fG p.1 (sB p m f.1)).size<=65535
   omega
 ·exact Nat.zero_le _
theorem Md{n:Int}(hn:n<=65535)(p q:aV)(b:ByteArray):(eF p q n b).2.size<=65535:=by
 unfold eF rF
 split
 ·exact zhg hn _ _ _
 ·unfold rG
  split
  ·exact zhg hn _ _ _
  ·split
   ·exact zhg hn _ _ _
   ·rename_i h
    show(fG q.1 _).size<=65535
    omega
theorem Me{p q:aV}{n:Int}(link:Int)(b:ByteArray):(fu p q n link b).2.size<=65535:=by
 unfold fu
 split
 ·exact Nat.zero_le _
 ·rename_i h
  have h0:=PU.1 (Decidable.not_not.1 h)
  split
  ·exact Md h0.n2 _ _ _
  ·split
   ·exact Md h0.n2 _ _ _
   ·exact Nat.zero_le _
def oK(p q:aV)(n link d:Int)(b:ByteArray):fj×Int:=
 if(fu p q n link b).1=3 then((link,3,bs [],zW zI (d+1),()),zW zI (d+1))
 else if(fu p q n link b).1=1 then((zW zI (1-link),1,rH (fu p q n link b).2,d,()),d)
 else((link,(fu p q n link b).1,rH (fu p q n link b).2,d,()),d)
theorem adG(p q:aV)(n link d:Int)(b:ByteArray)(m:Option Fr×Option Fr)(h:ct p q)(hb:b.size<=1099511627776):
 FV (([p,q],n,()),m,d) link b=some ((oK p q n link d b).1,(([p,q],n,()),m,(oK p q n link d b).2)):=by
 unfold FV XD oK
 rw[ac0 p q n link b h hb,zc]
 have hs:=Me (p:=p) (q:=q) (n:=n) link b
 obtain⟨e,hp⟩:=agr _ (show(fu p q n link b).2.size<=70000 by omega)
 generalize fu p q n link b=r at hs hp⊢
 by_cases h3:r.1=3
 ·rw[zT h3,if_pos h3,zC,h3]
 rw[zF h3,if_neg h3,zD]
 by_cases h1:r.1=1
 ·rw[zT h1,if_pos h1,zC,hp,zc,h1]
 ·rw[zF h1,if_neg h1,zD,hp,zc]
def kx(p q:aV)(n d:Int)(it:Item):fj×Int:=match it.2 with
 |some b=>oK p q n it.1 d b
 |none=>((it.1,4,bs [],d,()),d)
def bC(p q:aV)(n:Int):Int->List Item->List fj×Int
 |d,[]=>([],d)
 |d,it::r=>((kx p q n d it).1::(bC p q n (kx p q n d it).2 r).1,(bC p q n (kx p q n d it).2 r).2)
theorem z9p(p q:aV)(n:Int):∀(a b:List Item) (d:Int),bC p q n d (a++b)=((bC p q n d a).1++(bC p q n (bC p q n d a).2 b).1,(bC p q n (bC p q n d a).2 b).2)
 | [],b,d=>rfl
 |it::a,b,d=>by
  rw[List.cons_append,bC,bC,z9p p q n a b]
  rfl
theorem Pw(p q:aV)(n:Int):∀(a:List Item) (d:Int),(bC p q n d a).1.length=a.length
 | [],d=>rfl
 |it::a,d=>by rw[bC,List.length_cons,List.length_cons,Pw p q n a]
def gD(n:Int)(a:List Int):List (Option ByteArray):=(bk n a).2.2.map some++if(bk n a).1=true then [none] else []
def kQ(n:Int)(a b:List Int):List (Option ByteArray):=(gD n (a++b)).drop (gD n a).length
theorem ze3(n:Int)(a b:List Int):gD n (a++b)=gD n a++((b.foldl (aN n) ((bk n a).1,(bk n a).2.1,[])).2.2.map some++if decide ((bk n (a++b)).1=true/\(bk n a).1=false)=true then [none] else []):=by
 unfold gD
 have xg:=zox n a b
 cases hd:(bk n a).1 with
 |true=>
  rw[hd,Gv] at xg
  rw[Gv,xg]
  simp
 |false=>
  rw[hd] at xg
  have e1:(bk n (a++b)).2.2=(bk n a).2.2++(b.foldl (aN n) (false,(bk n a).2.1,[])).2.2:=by rw[xg]
  rw[e1]
  simp
theorem Du(n:Int)(a b:List Int):kQ n a b=(b.foldl (aN n) ((bk n a).1,(bk n a).2.1,[])).2.2.map some++if decide ((bk n (a++b)).1=true/\(bk n a).1=false)=true then [none] else []:=by
 unfold kQ
 rw[ze3,List.drop_left]
theorem Sw(n:Int)(a b:List Int):gD n (a++b)=gD n a++kQ n a b:=by rw[Du,<-ze3]
theorem S7(n:Int)(a b:List Int):(kQ n a b).length<=b.length+1:=by
 rw[Du]
 have:=(S5 n b ((bk n a).1,(bk n a).2.1,[])).2
 rw[List.length_append,List.length_map]
 split
 ·simp at this⊢;omega
 ·simp at this⊢;omega
def tR(k:Int)(i:Int)(x:ByteArray)(s:List fj×Gw)(K:List fj×Gw->Option (List fj×Bool×Gw×Ev)):Option (List fj×Bool×Gw×Ev):=
 (FV s.2 k x).bind fun r4=>(bif(decide ((s.1.length+(List.length ([r4.1]:List fj)))*40<=140737488355328)) then K (s.1++([r4.1]:List fj),r4.2) else none)
theorem MZ(p q:aV)(n k:Int)(h:ct p q)(m:Option Fr×Option Fr)(b:Bool)(e:Ev):∀(l:List ByteArray) (i:Int) (s:List fj) (d:Int),(∀x∈l,x.size<=1099511627776)->s.length+l.length<=3000000000000->
 bd (tR k) (fun s=>some (s.1,b,s.2,e)) l i (s,(([p,q],n,()),m,d))=some (s++(bC p q n d (l.map fun x=>(k,some x))).1,b,(([p,q],n,()),m,(bC p q n d (l.map fun x=>(k,some x))).2),e)
 | [],i,s,d,_,_=>by rw[List.map_nil,bC,List.append_nil];rfl
 |x::l,i,s,d,hb,hl=>by
  simp only[List.length_cons] at hl
  rw[bd,tR,adG p q n k d x m h (hb x (by simp)),zc,zT (by simp only[List.length_cons,List.length_nil];omega),zC,
   MZ p q n k h m b e l (i+1) _ _ (fun y hy=>hb y (by simp [hy])) (by simp;omega),List.map_cons,bC,List.append_assoc]
  rfl
theorem KB(k:Int):BG k=some (decide (k=0\/k=1)):=by
 unfold BG XG
 by_cases h:k=0
 ·simp [h]
 ·simp [h]
def dn(n:Int)(xy:ByteArray×ByteArray)(e:Ev):List Item×(ByteArray×ByteArray):=
 if e.1=0 then((kQ n (bl xy.1) (bl e.2.1)).map fun i=>((0:Int),i),(xy.1++e.2.1,xy.2))
 else if e.1=1 then((kQ n (bl xy.2) (bl e.2.1)).map fun i=>((1:Int),i),(xy.1,xy.2++e.2.1))
 else([],xy)
theorem zw4(m:Int)(l:List Int):∀(st:Bool×List Int×List ByteArray),∀x∈(l.foldl (aN m) st).2.2,x∈st.2.2\/x.size<=st.2.1.length+l.length:=by
 induction l with
 |nil=>intro st x hx;exact .inl hx
 |cons c r ih=>
  intro st x hx
  have h:(aN m st c).2.1.length<=st.2.1.length+1/\∀y∈(aN m st c).2.2,y∈st.2.2\/y.size<=st.2.1.length+1:=by
   unfold aN
   split
   ·exact⟨by omega,fun y hy=> .inl hy⟩
   ·split
    ·exact⟨by simp,fun y hy=> .inl hy⟩
    ·split
     ·refine⟨by simp,fun y hy=> ?_⟩
      rcases List.mem_append.1 hy with hy|hy
      ·exact .inl hy
      ·right
       have:y=strOf ((st.2.1++ [c]).drop 2):=by simpa using hy
       rw[this,uY,List.length_drop,List.length_append,List.length_cons,List.length_nil]
       omega
     ·exact⟨by simp,fun y hy=> .inl hy⟩
  rcases ih (aN m st c) x hx with h1|h1
  ·rcases h.2 x h1 with h2|h2
   ·exact .inl h2
   ·right;simp;omega
  ·right;have:=h.1;simp;omega
theorem LK(p q:aV)(n k:Int)(h:ct p q)(a c:ByteArray)(m:Option Fr×Option Fr)(d:Int)(hs:a.size+c.size<=1000000000000)(F:List fj×Bool×Gw×Ev->Option (List fj×Gw)):
 ((BD (dJ n (bl a)) c).bind fun r3=>(Hc ai ([]:List fj) r3.2.1 r3.1 ((List.length r3.1):Int) (0:Int) (([p,q],n,()),((fL k.toNat (some r3.2.2) m),d)) (k,c,())).bind F)=
   F ((bC p q n d (((bl c).foldl (aN n) ((bk n (bl a)).1,(bk n (bl a)).2.1,[])).2.2.map fun x=>(k,some x))).1,decide ((bk n (bl a++bl c)).1=true/\(bk n (bl a)).1=false),(([p,q],n,()),fL k.toNat (some (dJ n (bl (a++c)))) m,(bC p q n d (((bl c).foldl (aN n) ((bk n (bl a)).1,(bk n (bl a)).2.1,[])).2.2.map fun x=>(k,some x))).2),(k,c,())):=by
 have hla:=zg a
 have hlc:=zg c
 rw[ab7 n (bl a) c (fun x hx=>jt hx) (by omega),zc]
 dsimp only
 generalize hl:((bl c).foldl (aN n) ((bk n (bl a)).1,(bk n (bl a)).2.1,[])).2.2=l
 have hlen:l.length<=c.size:=by
  have:=(S5 n (bl c) ((bk n (bl a)).1,(bk n (bl a)).2.1,[])).2
  rw[hl] at this
  simp only[List.length_nil] at this;omega
 have di:∀x∈l,x.size<=1099511627776:=fun x hx=>by
  rw[<-hl] at hx
  have h1:=(zr1 n (bl a)).1
  rcases zw4 n (bl c) _ x hx with h2|h2
  ·cases h2
  ·simp only at h2;omega
 have:=cr (bs []) l (by rw[zh];omega) (tR k) (fun s=>some (s.1,decide ((bk n (bl a++bl c)).1=true/\(bk n (bl a)).1=false),s.2,(k,c,())))
  (fun j i s=>Hc j s.1 (decide ((bk n (bl a++bl c)).1=true/\(bk n (bl a)).1=false)) l (l.length:Int) i s.2 (k,c,())) (fun j i s=>rfl) ([],(([p,q],n,()),(fL k.toNat (some (dJ n (bl a++bl c))) m,d)))
 refine(congrArg (fun o=>Option.bind o F) (this.trans (MZ p q n k h _ _ _ l 0 [] d di (by simp;omega)))).trans ?_
 rw[zc,List.nil_append,u7]
theorem ad3(p q:aV)(n d:Int)(h:ct p q)(x y:ByteArray)(e:Ev)(hs:x.size+y.size+e.2.1.size<=1000000000000):
 FU (gw ([p,q],n,()) n x y d) e=some ((bC p q n d (dn n (x,y) e).1).1,gw ([p,q],n,()) n (dn n (x,y) e).2.1 (dn n (x,y) e).2.2 (bC p q n d (dn n (x,y) e).1).2):=by
 obtain⟨k,c,u⟩:=e
 cases u
 dsimp only at hs
 unfold FU XA
 rw[KB,zc]
 have fin:∀(a:ByteArray) (m:Option Fr×Option Fr),a.size+c.size<=1000000000000->k=0\/k=1->
  Re (bC p q n d (((bl c).foldl (aN n) ((bk n (bl a)).1,(bk n (bl a)).2.1,[])).2.2.map fun x=>(k,some x))).1 (decide ((bk n (bl a++bl c)).1=true/\(bk n (bl a)).1=false)) (([p,q],n,()),m,(bC p q n d (((bl c).foldl (aN n) ((bk n (bl a)).1,(bk n (bl a)).2.1,[])).2.2.map fun x=>(k,some x))).2) (k,c,()) (fun a0 a1=>some (a0,a1))=
  some ((bC p q n d ((kQ n (bl a) (bl c)).map fun i=>(k,i))).1,(([p,q],n,()),m,(bC p q n d ((kQ n (bl a) (bl c)).map fun i=>(k,i))).2)):=fun a m hs hk=>by
  have hlc:=zg c
  have hlen:=(S5 n (bl c) ((bk n (bl a)).1,(bk n (bl a)).2.1,[])).2
  rw[Du,List.map_append,List.map_map,z9p]
  unfold Re
  generalize hl:((bl c).foldl (aN n) ((bk n (bl a)).1,(bk n (bl a)).2.1,[])).2.2=l at hlen⊢
  simp only[List.length_nil] at hlen
  have e1:((fun i=>(k,i))∘some:ByteArray->Item)=fun x=>(k,some x):=rfl
  rw[e1]
  cases decide ((bk n (bl a++bl c)).1=true/\(bk n (bl a)).1=false) with
  |false=>
   rw[zD,if_neg (by simp)]
   simp [bC]
  |true=>
   rw[zC,if_pos rfl,Pw,List.length_map,zT (by simp only[List.length_cons,List.length_nil];omega),zC]
   simp [bC,kx]
 by_cases h0:k=0
 ·subst h0
  rw[zT (.inl rfl),Bool.not_true,zD]
  dsimp only
  rw[uU]
  show(getM (0:Int).toNat (some (dJ n (bl x)),some (dJ n (bl y)))).bind _=_
  rw[show getM (0:Int).toNat (some (dJ n (bl x)),some (dJ n (bl y)))=some (dJ n (bl x)) from rfl,zc]
  refine(LK p q n 0 h x c (some (dJ n (bl x)),some (dJ n (bl y))) d (by omega) _).trans ?_
  dsimp only
  rw[fin x _ (by omega) (.inl rfl)]
  rfl
 by_cases h1:k=1
 ·subst h1
  rw[zT (.inr rfl),Bool.not_true,zD]
  dsimp only
  rw[uV]
  show(getM (1:Int).toNat (some (dJ n (bl x)),some (dJ n (bl y)))).bind _=_
  rw[show getM (1:Int).toNat (some (dJ n (bl x)),some (dJ n (bl y)))=some (dJ n (bl y)) from rfl,zc]
  refine(LK p q n 1 h y c (some (dJ n (bl x)),some (dJ n (bl y))) d (by omega) _).trans ?_
  dsimp only
  rw[fin y _ (by omega) (.inr rfl)]
  rfl
 ·rw[zF (fun e=>e.elim h0 h1),Bool.not_false,zC]
  unfold dn
  rw[if_neg h0,if_neg h1]
  rfl
def nQ(l:List Ev):Nat:=(l.map fun e=>e.2.1.size).sum
theorem z59(e:Ev)(l:List Ev):nQ (e::l)=e.2.1.size+nQ l:=by simp [nQ]
theorem L7(n:Int)(x y:ByteArray)(e:Ev):(dn n (x,y) e).2.1.size+(dn n (x,y) e).2.2.size<=x.size+y.size+e.2.1.size/\(dn n (x,y) e).1.length<=e.2.1.size+1:=by
 unfold dn
 split
 ·have:=S7 n (bl x) (bl e.2.1)
  rw[zg] at this
  exact⟨by simp [ByteArray.size_append];omega,by simpa using this⟩
 ·split
  ·have:=S7 n (bl y) (bl e.2.1)
   rw[zg] at this
   exact⟨by simp [ByteArray.size_append];omega,by simpa using this⟩
  ·exact⟨by simp,by simp⟩
def cq(n:Int):ByteArray×ByteArray->List Ev->List Item×(ByteArray×ByteArray)
 |xy,[]=>([],xy)
 |xy,e::r=>((dn n xy e).1++(cq n (dn n xy e).2 r).1,(cq n (dn n xy e).2 r).2)
theorem L2(n:Int):∀(l:List Ev) (x y:ByteArray),(cq n (x,y) l).2.1.size+(cq n (x,y) l).2.2.size<=x.size+y.size+nQ l/\(cq n (x,y) l).1.length<=l.length+nQ l
 | [],x,y=>⟨by simp [cq],by simp [cq]⟩
 |e::l,x,y=>by
  have h1:=L7 n x y e
  have h2:=L2 n l (dn n (x,y) e).2.1 (dn n (x,y) e).2.2
  rw[cq,z59,List.length_cons]
  dsimp only
  rw[List.length_append]
  have e2:((dn n (x,y) e).2.1,(dn n (x,y) e).2.2)=(dn n (x,y) e).2:=rfl
  rw[e2] at h2
  exact⟨by omega,by omega⟩
def CL(i:Int)(e:Ev)(s:List fj×Gw)(K:List fj×Gw->Option (List fj×Gw)):Option (List fj×Gw):=
 (FU s.2 e).bind fun r1=>(bif(decide ((s.1.length+r1.1.length)*40<=140737488355328)) then K (s.1++r1.1,r1.2) else none)
section
variable (p q:aV) (n:Int) (h:ct p q)
include h
theorem OL:∀(l:List Ev) (i:Int) (s:List fj) (x y:ByteArray) (d:Int),x.size+y.size+nQ l<=1000000000000->s.length+l.length+nQ l<=3000000000000->
 bd CL (fun s=>some s) l i (s,gw ([p,q],n,()) n x y d)=some (s++(bC p q n d (cq n (x,y) l).1).1,gw ([p,q],n,()) n (cq n (x,y) l).2.1 (cq n (x,y) l).2.2 (bC p q n d (cq n (x,y) l).1).2)
 | [],i,s,x,y,d,_,_=>by rw[cq,bC,List.append_nil];rfl
 |e::l,i,s,x,y,d,h1,h2=>by
  rw[z59] at h1 h2
  rw[List.length_cons] at h2
  have hz:=L7 n x y e
  rw[bd,CL,ad3 p q n d h x y e (by omega),zc,Pw,zT (by dsimp only;omega),zC,
   OL l (i+1) _ _ _ _ (by omega) (by dsimp only;rw[List.length_append,Pw];omega),cq,z9p,List.append_assoc]
theorem ajk(x y:ByteArray)(d:Int)(l:List Ev)(hs:x.size+y.size+nQ l<=1000000000000)(hl:l.length<=1000000000000):
 BF (gw ([p,q],n,()) n x y d) l=some ((bC p q n d (cq n (x,y) l).1).1,gw ([p,q],n,()) n (cq n (x,y) l).2.1 (cq n (x,y) l).2.2 (bC p q n d (cq n (x,y) l).1).2):=by
 unfold BF XC
 dsimp only
 have:=cr ((0:Int),bs [],()) l (by rw[zh];omega) CL (fun s=>some s) (fun k i s=>Rf k s.1 l (l.length:Int) i s.2) (fun k i s=>rfl) ([],gw ([p,q],n,()) n x y d)
 refine(congrArg (fun o=>Option.bind o _) (this.trans (OL p q n h l 0 [] x y d hs (by simp;omega)))).trans ?_
 rw[zc,List.nil_append]
 rfl
end
theorem abP(g:Gw):FT g=some (g.2.2,g):=rfl
theorem VW:vY=some true:=by kernel_rfl
def Yo(most:Int)(i:Int)(x:Ev)(s:Int)(K:Int->Option (Sum JB (Int×Int))):Option (Sum JB (Int×Int)):=
 bif(decide (most<s)) then some (.inl (most,true,s)) else(bif(decide (most<(x.2.1.size:Int))) then some (.inl (most,true,s)) else K (zW zI (s+(x.2.1.size:Int))))
theorem LS(most:Int)(h0:0<=most)(h1:most<=1000000):∀(l:List Ev) (i:Int) (s:Nat),∃r,bd (Yo most) (fun s=>some (.inr (most,s))) l i (s:Int)=some r/\(∀z,r= .inl z->z.2.1=true)/\∀z,r= .inr z->z=(most,((s+nQ l:Nat):Int))
 | [],i,s=>⟨_,rfl,fun z hz=>(by cases hz),fun z hz=>(by cases hz;rfl)⟩
 |x::l,i,s=>by
  rw[bd,Yo,z59]
  by_cases h2:most<(s:Int)
  ·rw[zT h2]
   exact⟨_,rfl,fun z hz=>(by cases hz;rfl),fun z hz=>(by cases hz)⟩
  rw[zF h2,zD]
  by_cases h3:most<(x.2.1.size:Int)
  ·rw[zT h3]
   exact⟨_,rfl,fun z hz=>(by cases hz;rfl),fun z hz=>(by cases hz)⟩
  rw[zF h3,zD,zi (by omega) (by omega),show(s:Int)+(x.2.1.size:Int)=((s+x.2.1.size:Nat):Int) by omega]
  obtain⟨r,e1,e2,e3⟩:=LS most h0 h1 l (i+1) (s+x.2.1.size)
  exact⟨r,e1,e2,fun z hz=>by rw[e3 z hz,Nat.add_assoc]⟩
theorem amD(l:List Ev)(most:Int)(h0:0<=most)(h1:most<=1000000)(hl:l.length<=maxLen):∃b,nY l most=some b/\(b=false->((l.length+nQ l:Nat):Int)<=most):=by
 unfold nY Ub
 dsimp only
 have:=lz ((0:Int),bs [],()) l hl (Yo most) (fun s=>some (.inr (most,s))) (fun k i s=>Qh k l most s i)
  (fun k i s hi oo=>by
    show Fl l most s i _ _ _=_
    unfold Fl Yo
    rw[zT oo,zC,zn hi oo,zn hi oo])
  (fun k s=>by
    show Fl l most s _ _ _ _=_
    unfold Fl
    rw[zF (by omega)];rfl) (l.length:Int)
 obtain⟨r,e1,e2,e3⟩:=LS most h0 h1 l 0 l.length
 rw[this,e1,zc]
 rcases r with z|z
 ·refine⟨z.2.1,rfl,fun hb=> ?_⟩
  rw[e2 z rfl] at hb
  cases hb
 ·rw[e3 z rfl]
  refine⟨_,rfl,fun hb=> ?_⟩
  have:=of_decide_eq_false hb
  omega
theorem amK(p q:aV)(n:Int){g b:Bool}(hg:mJ ([p,q],n,())=some g)(fm:g=false->ct p q){l:List Ev}{most:Int}(hb:nY l most=some b):
 FW ([p,q],n,()) l most=some (bif g||b|| !decide ((eW p q n).1=0) then .inl () else .inr (true,gw ([p,q],n,()) n (bs []) (bs []) 0)):=by
 unfold FW XQ
 rw[hg,zc]
 cases g with
 |true=>rfl
 |false=>
  have h:=fm rfl
  rw[zD,hb,zc]
  cases b with
  |true=>rfl
  |false=>
   rw[zD,ac4 p q n h,zc]
   by_cases h0:(eW p q n).1=0
   case neg=>rw[zF h0];rfl
   rw[zT h0,Bool.not_true,zD,ad1 p q n h,zc,ahE p q n h,zc,if_pos h0]
   rfl
abbrev tEv:Ty:= .pair (.int .i64) (.pair .str .unit)
theorem amj{c:qD}(hc:Wf Wd c){l:List Ev}(hl:Wf (.sl 0 tEv) l)(most:Int)(h0:0<=most)(h1:most<=1000000):
 ∃p q n g b,c=([p,q],n,())/\mJ c=some g/\(g=false->ct p q)/\nY l most=some b/\(b=false->((l.length+nQ l:Nat):Int)<=most)/\
  FW c l most=some (bif g||b|| !decide ((eW p q n).1=0) then .inl () else .inr (true,gw ([p,q],n,()) n (bs []) (bs []) 0)):=by
 obtain⟨p,q,n,rfl,g,hg,fm⟩:=ami hc
 obtain⟨b,hb,hs⟩:=amD l most h0 h1 hl.1
 exact⟨p,q,n,g,b,rfl,hg,fm,hb,hs,amK p q n hg fm hb⟩
end bp

namespace bp
open Go.IntKind renaming wrap->zW,i64->zI,u8->zU
open Go Go.Ref
section
variable (p q:aV) (n:Int) (h:ct p q) (hc:(eW p q n).1=0)
include h hc
omit h hc in
end
end bp

namespace bp
open Go.IntKind renaming wrap->zW,i64->zI,u8->zU
open Go Go.Ref
section
variable (p q:aV) (n:Int) (h:ct p q) (hc:(eW p q n).1=0)
include h hc
end
end bp

namespace bp
open Go.IntKind renaming wrap->zW,i64->zI,u8->zU
open Go Go.Ref
theorem Sx(n:Int):gD n []=[]:=by simp [gD,bk]
theorem Gr(n pos:Int)(l:List Int)(hp:0<=pos)(hb:∀x∈l,zm x):gD n l=(cT n pos l).1.map some++if 0<=(cT n pos l).2.2.2 then [none] else []:=by
 unfold gD bk
 rw[z182 n l.length l pos [] (Nat.le_refl _) hp hb]
 simp
theorem zaw(n:Int)(l:List Int)(hb:∀x∈l,zm x)(h:l.length<2):gD n l=[]:=by
 rw[Gr n 0 l (by omega) hb,cT,dif_pos h];rfl
theorem L0(n:Int)(l:List Int)(hb:∀x∈l,zm x)(h:¬l.length<2)(hz:cG l=0\/n<cG l):gD n l=[none]:=by
 rw[Gr n 0 l (by omega) hb,cT,dif_neg h,if_pos hz];rfl
theorem zvq(n:Int)(l:List Int)(hb:∀x∈l,zm x)(h:¬l.length<2)(hz:¬(cG l=0\/n<cG l))(hl:(l.length:Int)-2<cG l):gD n l=[]:=by
 rw[Gr n 0 l (by omega) hb,cT,dif_neg h,if_neg hz,if_pos hl];rfl
theorem zvp(n:Int)(l:List Int)(hb:∀x∈l,zm x)(h:¬l.length<2)(hz:¬(cG l=0\/n<cG l))(hl:¬(l.length:Int)-2<cG l):
 gD n l=some (strOf ((l.drop 2).take (cG l).toNat))::gD n (l.drop (2+(cG l).toNat)):=by
 have hr:=GC hb
 rw[Gr n 0 l (by omega) hb,cT,dif_neg h,if_neg hz,if_neg hl,Gr n (0+2+cG l) (l.drop (2+(cG l).toNat)) (by omega) (fun x hx=>hb x (List.mem_of_mem_drop hx))]
 rfl
theorem NB(l:List Int)(b:Nat)(hb:2<=b):cG (l.take b)=cG l:=by
 match l,b,hb with
 | [],_,_=>rw[List.take_nil]
 | [x],b+2,_=>rfl
 |x::y::r,b+2,_=>
  show cG (x::y::r.take b)=_
  unfold cG
  rw[if_neg (by simp),if_neg (by simp)];rfl
theorem PJ{l:List Int}(hb:∀x∈l,zm x)(b:Nat):∀x∈l.take b,zm x:=fun x hx=>hb x (List.mem_of_mem_take hx)
theorem adB(n:Int)(l:List Int)(hb:∀x∈l,zm x)(h:¬l.length<2)(hz:¬(cG l=0\/n<cG l))(b:Nat)(JP:b<=l.length):
 (gD n (l.take b)).length=if b<2+(cG l).toNat then 0 else 1+(gD n ((l.drop (2+(cG l).toNat)).take (b-(2+(cG l).toNat)))).length:=by
 have hr:=GC hb
 have hlen:(l.take b).length=b:=by rw[List.length_take];omega
 by_cases h2:b<2
 ·rw[if_pos (by omega),zaw n _ (PJ hb b) (by omega)];rfl
 have hs:=NB l b (by omega)
 by_cases h3:b<2+(cG l).toNat
 ·rw[if_pos h3,zvq n _ (PJ hb b) (by omega) (by rw[hs];exact hz) (by rw[hs,hlen];omega)];rfl
 ·rw[if_neg h3,zvp n _ (PJ hb b) (by omega) (by rw[hs];exact hz) (by rw[hs,hlen];omega),List.length_cons,hs,List.drop_take];omega
def c8(n pos:Int)(l:List Int):List Int:=(cT n pos l).2.2.1++if 0<=(cT n pos l).2.2.2 then [(cT n pos l).2.2.2] else []
theorem V0(n:Int):∀(N:Nat) (l:List Int) (pos:Int),l.length<=N->0<=pos->(∀x∈l,zm x)->
 (c8 n pos l).length=(gD n l).length/\∀(t:Nat) (ht:t<(c8 n pos l).length),∃c:Nat,(c8 n pos l)[t]=pos+c/\c<=l.length/\(gD n (l.take c)).length=t+1/\∀b,b<c->(gD n (l.take b)).length<=t:=by
 intro N
 induction N using Nat.strongRecOn with
 |_ N ih=>
 intro l pos hN hp hb
 by_cases h2:l.length<2
 ·have e:c8 n pos l=[]:=by unfold c8;rw[cT,dif_pos h2];rfl
  rw[e,zaw n l hb h2]
  exact⟨rfl,fun t ht=>absurd ht (by simp)⟩
 have hr:=GC hb
 by_cases hz:cG l=0\/n<cG l
 ·have e:c8 n pos l=[pos+2]:=by unfold c8;rw[cT,dif_neg h2,if_pos hz];simp;omega
  have hlen:(l.take 2).length=2:=by rw[List.length_take];omega
  have hs:=NB l 2 (by omega)
  simp only[e]
  refine⟨by rw[L0 n l hb h2 hz];rfl,fun t ht=> ?_⟩
  have ZR:t=0:=by simpa using ht
  subst ZR
  refine⟨2,rfl,by omega,?_,fun b kc=> ?_⟩
  ·rw[L0 n _ (PJ hb 2) (by omega) (by rw[hs];exact hz)];rfl
  ·rw[zaw n _ (PJ hb b) (by rw[List.length_take];omega)];exact Nat.zero_le _
 by_cases hl:(l.length:Int)-2<cG l
 ·have e:c8 n pos l=[]:=by unfold c8;rw[cT,dif_neg h2,if_neg hz,if_pos hl];rfl
  rw[e,zvq n l hb h2 hz hl]
  exact⟨rfl,fun t ht=>absurd ht (by simp)⟩
 have e:c8 n pos l=(pos+2+cG l)::c8 n (pos+2+cG l) (l.drop (2+(cG l).toNat)):=by unfold c8;rw[cT,dif_neg h2,if_neg hz,if_neg hl];rfl
 have hdb:∀x∈l.drop (2+(cG l).toNat),zm x:=fun x hx=>hb x (List.mem_of_mem_drop hx)
 have hdl:(l.drop (2+(cG l).toNat)).length=l.length-(2+(cG l).toNat):=List.length_drop
 obtain⟨i1,i2⟩:=ih (N-2) (by omega) (l.drop (2+(cG l).toNat)) (pos+2+cG l) (by omega) (by omega) hdb
 have hit:=adB n l hb h2 hz
 simp only[e]
 refine⟨by rw[zvp n l hb h2 hz hl,List.length_cons,List.length_cons,i1],fun t ht=> ?_⟩
 cases t with
 |zero=>
  refine⟨2+(cG l).toNat,by rw[List.getElem_cons_zero];omega,by omega,?_,fun b kc=> ?_⟩
  ·rw[hit _ (by omega),if_neg (by omega),Nat.sub_self,List.take_zero,Sx];rfl
  ·rw[hit b (by omega),if_pos kc];exact Nat.le_refl _
 |succ t=>
  obtain⟨c,c1,c2,c3,c4⟩:=i2 t (by rw[List.length_cons] at ht;omega)
  refine⟨2+(cG l).toNat+c,by rw[List.getElem_cons_succ,c1];omega,by omega,?_,fun b kc=> ?_⟩
  ·rw[hit _ (by omega),if_neg (by omega),Nat.add_sub_cancel_left,c3];omega
  ·rw[hit b (by omega)]
   by_cases h3:b<2+(cG l).toNat
   ·rw[if_pos h3];exact Nat.zero_le _
   ·rw[if_neg h3]
    have:=c4 (b-(2+(cG l).toNat)) (by omega)
    omega
def mC(k:Int)(a:ByteArray)(l:List Ev):ByteArray:=l.foldl (fun a e=>if e.1=k then a++e.2.1 else a) a
theorem zif(n:Int):∀(l:List Ev) (x y:ByteArray),(cq n (x,y) l).2=(mC 0 x l,mC 1 y l)
 | [],x,y=>rfl
 |e::l,x,y=>by
  rw[cq]
  dsimp only
  have hn:(dn n (x,y) e).2=(if e.1=0 then x++e.2.1 else x,if e.1=1 then y++e.2.1 else y):=by
   unfold dn
   by_cases h0:e.1=0
   ·rw[if_pos h0,if_pos h0,if_neg (by omega)]
   ·rw[if_neg h0,if_neg h0]
    by_cases h1:e.1=1
    ·rw[if_pos h1,if_pos h1]
    ·rw[if_neg h1,if_neg h1]
  rw[hn,zif n l]
  rfl
theorem V3(n:Int)(f:Item->Nat):∀(l:List Ev) (x y:ByteArray),
 ((cq n (x,y) l).1.map f).sum+((gD n (bl x)).map fun i=>f (0,i)).sum+((gD n (bl y)).map fun i=>f (1,i)).sum=
   ((gD n (bl (cq n (x,y) l).2.1)).map fun i=>f (0,i)).sum+((gD n (bl (cq n (x,y) l).2.2)).map fun i=>f (1,i)).sum
 | [],x,y=>by simp [cq]
 |e::l,x,y=>by
  have ih:=V3 n f l (dn n (x,y) e).2.1 (dn n (x,y) e).2.2
  rw[show((dn n (x,y) e).2.1,(dn n (x,y) e).2.2)=(dn n (x,y) e).2 from rfl] at ih
  rw[cq]
  dsimp only
  rw[<-ih,List.map_append,List.sum_append]
  have hn:((dn n (x,y) e).1.map f).sum+((gD n (bl x)).map fun i=>f (0,i)).sum+((gD n (bl y)).map fun i=>f (1,i)).sum=((gD n (bl (dn n (x,y) e).2.1)).map fun i=>f (0,i)).sum+((gD n (bl (dn n (x,y) e).2.2)).map fun i=>f (1,i)).sum:=by
   unfold dn
   by_cases h0:e.1=0
   ·rw[if_pos h0]
    dsimp only
    rw[u7,Sw,List.map_append,List.sum_append,List.map_map]
    show((kQ n (bl x) (bl e.2.1)).map fun i=>f (0,i)).sum+_+_=_
    omega
   ·rw[if_neg h0]
    by_cases h1:e.1=1
    ·rw[if_pos h1]
     dsimp only
     rw[u7,Sw,List.map_append,List.sum_append,List.map_map]
     show((kQ n (bl y) (bl e.2.1)).map fun i=>f (1,i)).sum+_+_=_
     omega
    ·rw[if_neg h1];simp
  omega
theorem zqb(p:aV)(n:Int)(m:bK)(f:bN):(gG p n m f).1=2\/((gG p n m f).1=3/\(gG p n m f).2=bs []):=by
 unfold gG
 split
 ·split
  ·exact .inr ⟨rfl,rfl⟩
  ·exact .inl rfl
 ·exact .inr ⟨rfl,rfl⟩
theorem Ns{p q:aV}{n:Int}(h:ct p q)(h0:nT p q n)(b:ByteArray)(hb:b.size<=1099511627776):
 ((eF p q n b).1=3/\(eF p q n b).2=bs [])\/(((eF p q n b).1=1\/(eF p q n b).1=2)/\1<=(eF p q n b).2.size):=by
 have hk:(eF p q n b).1=1\/(eF p q n b).1=2\/((eF p q n b).1=3/\(eF p q n b).2=bs []):=by
  unfold eF rF
  split
  ·exact .inr (zqb p n _ _)
  ·unfold rG
   split
   ·exact .inr (zqb p n _ _)
   ·split
    ·exact .inr (zqb p n _ _)
    ·exact .inl rfl
 rcases hk with h1|h2|h3
 ·obtain⟨m,x,_,_,_,_,x1,_,x3,_⟩:=aos h (b:=b) (s:=(eF p q n b).2) hb (Prod.ext h1 rfl)
  have:=zqp x1
  exact .inr ⟨.inl h1,by rw[x3];omega⟩
 ·obtain⟨x,x1,_,_,x3,_⟩:=aoD h h0 (b:=b) (s:=(eF p q n b).2) hb (Prod.ext h2 rfl)
  have:=zqp x1
  exact .inr ⟨.inr h2,by rw[x3];omega⟩
 ·exact .inl h3
theorem akj{p q:aV}{n:Int}(h:ct p q)(hc:(eW p q n).1=0){k:Int}(hk:k=0\/k=1)(b:ByteArray)(hb:b.size<=1099511627776):
 ((fu p q n k b).1=3/\(fu p q n k b).2=bs [])\/(((fu p q n k b).1=1\/(fu p q n k b).1=2)/\1<=(fu p q n k b).2.size):=by
 unfold fu
 rw[if_neg (fun e=>e hc)]
 rcases hk with rfl|rfl
 ·rw[if_pos rfl];exact Ns h (PU.1 hc) b hb
 ·rw[if_neg (by decide),if_pos rfl];exact Ns h.symm (PU.1 hc).symm b hb
theorem agZ{b:ByteArray}(h1:1<=b.size)(h2:b.size<=65535):(rH b).size=2+b.size:=by
 unfold rH
 rw[if_neg (by omega),ByteArray.size_append,uY]
 rfl
theorem akm{p q:aV}{n:Int}(h:ct p q)(hc:(eW p q n).1=0){k:Int}(hk:k=0\/k=1)(d:Int)(b:ByteArray)(hb:b.size<=1099511627776):
 oK p q n k d b=((k,3,bs [],zW zI (d+1),()),zW zI (d+1))\/∃lk kind s,oK p q n k d b=((lk,kind,s,d,()),d)/\(kind=1\/kind=2)/\3<=s.size:=by
 have hs:=Me (p:=p) (q:=q) (n:=n) k b
 unfold oK
 rcases akj h hc hk b hb with⟨h3,_⟩|⟨h1,h4⟩
 ·rw[if_pos h3];exact .inl rfl
 ·right
  have hp:=agZ h4 hs
  by_cases e1:(fu p q n k b).1=1
  ·rw[if_neg (by omega),if_pos e1];exact⟨_,_,_,rfl,.inl rfl,by omega⟩
  ·have e2:(fu p q n k b).1=2:=by omega
   rw[if_neg (by omega),if_neg e1,e2];exact⟨_,_,_,rfl,.inr rfl,by omega⟩
theorem amI(n:Int)(P:Item->Prop)(l:List Ev)(h0:∀i∈gD n (bl (mC 0 (bs []) l)),P (0,i))(h1:∀i∈gD n (bl (mC 1 (bs []) l)),P (1,i)):∀it∈(cq n (bs [],bs []) l).1,P it:=by
 classical
 have h:=V3 n (fun it=>if P it then 0 else 1) l (bs []) (bs [])
 rw[zif] at h
 dsimp only at h
 have z:∀(s:List (Option ByteArray)) (k:Int),(∀i∈s,P (k,i))->(s.map fun i=>if P (k,i) then 0 else 1).sum=0:=by
  intro s k
  induction s with
  |nil=>intro _;rfl
  |cons a s ih=>intro hs;rw[List.map_cons,List.sum_cons,if_pos (hs a (by simp)),ih (fun i hi=>hs i (by simp [hi]))]
 rw[z _ 0 h0,z _ 1 h1] at h
 have zz:∀(s:List Item),(s.map fun it=>if P it then 0 else 1).sum=0->∀it∈s,P it:=by
  intro s
  induction s with
  |nil=>intro _ it hit;cases hit
  |cons a s ih=>
   intro hs it hit
   rw[List.map_cons,List.sum_cons] at hs
   by_cases ha:P a
   ·rcases List.mem_cons.1 hit with e|e
    ·rw[e];exact ha
    ·exact ih (by omega) it e
   ·rw[if_neg ha] at hs;omega
 exact zz _ (by omega)
theorem L1{n:Int}{a:List Int}{b:ByteArray}(h:some b∈gD n a):b.size<=a.length:=by
 have hb:b∈(bk n a).2.2:=by
  unfold gD at h
  rcases List.mem_append.1 h with h|h
  ·obtain⟨x,hx,e⟩:=List.mem_map.1 h
   injection e with e
   rw[<-e];exact hx
  ·split at h
   ·simp at h
   ·cases h
 rcases zw4 n a (false,[],[]) b hb with h2|h2
 ·cases h2
 ·simpa using h2
theorem P0(k:Int):∀(l:List Ev) (a:ByteArray),(mC k a l).size<=a.size+nQ l
 | [],a=>by simp [mC]
 |e::l,a=>by
  have:=P0 k l (if e.1=k then a++e.2.1 else a)
  rw[show mC k a (e::l)=mC k (if e.1=k then a++e.2.1 else a) l from rfl,z59]
  have h2:(if e.1=k then a++e.2.1 else a).size<=a.size+e.2.1.size:=by
   split
   ·rw[ByteArray.size_append];omega
   ·omega
  omega
def vM(it:Item):Prop:=(it.1=0\/it.1=1)/\∀b,it.2=some b->b.size<=1099511627776
theorem aoz(n:Int)(l:List Ev)(hs:nQ l<=1000000000):∀it∈(cq n (bs [],bs []) l).1,vM it:=by
 have hz:(bs []).size=0:=rfl
 refine amI n vM l (fun i hi=>⟨.inl rfl,fun b hb=> ?_⟩) (fun i hi=>⟨.inr rfl,fun b hb=> ?_⟩)
 ·have hb:i=some b:=hb
  rw[hb] at hi
  have h1:=L1 hi
  have h2:=P0 0 l (bs [])
  rw[zg] at h1
  omega
 ·have hb:i=some b:=hb
  rw[hb] at hi
  have h1:=L1 hi
  have h2:=P0 1 l (bs [])
  rw[zg] at h1
  omega
def fZ(l:List Item):Nat:=(l.map fun it=>if it.2=none then 1 else 0).sum
theorem zol(n:Int)(k:Int)(a:List Int):((gD n a).map fun i=>if((k,i):Item).2=none then 1 else 0).sum<=1:=by
 have z:∀s:List ByteArray,((s.map some).map fun i=>if((k,i):Item).2=none then 1 else 0).sum=0:=by
  intro s
  induction s with
  |nil=>rfl
  |cons b s ih=>rw[List.map_cons,List.map_cons,List.sum_cons,ih,if_neg (by simp)]
 unfold gD
 rw[List.map_append,List.sum_append,z]
 split
 ·simp
 ·simp
theorem agx(n:Int)(l:List Ev):fZ (cq n (bs [],bs []) l).1<=2:=by
 have h:=V3 n (fun it=>if it.2=none then 1 else 0) l (bs []) (bs [])
 have h0:=zol n 0 (bl (cq n (bs [],bs []) l).2.1)
 have h1:=zol n 1 (bl (cq n (bs [],bs []) l).2.2)
 unfold fZ
 omega
theorem akx{α:Type}(l:List α):(l.map fun _=>1).sum=l.length:=by
 induction l with
 |nil=>rfl
 |cons a l ih=>rw[List.map_cons,List.sum_cons,ih,List.length_cons];omega
theorem agw(n:Int)(l:List Ev):(cq n (bs [],bs []) l).1.length=(c8 n 0 (bl (mC 0 (bs []) l))).length+(c8 n 0 (bl (mC 1 (bs []) l))).length:=by
 have h:=V3 n (fun _=>1) l (bs []) (bs [])
 rw[zif] at h
 dsimp only at h
 simp only[akx] at h
 rw[show bl (bs [])=[] from rfl,Sx] at h
 rw[(V0 n _ _ 0 (Nat.le_refl _) (by omega) (fun x hx=>jt hx)).1,(V0 n _ _ 0 (Nat.le_refl _) (by omega) (fun x hx=>jt hx)).1]
 simp only[List.length_nil] at h
 omega
def Wc(k:Int)(i:Int)(x:Ev)(s:ByteArray)(K:ByteArray->Option ByteArray):Option ByteArray:=
 bif(decide (x.1=k)) then(bif decide (s.size+x.2.1.size<=9223372036854775807) then K (s++x.2.1) else none) else K s
theorem ze0(k:Int):∀(l:List Ev) (i:Int) (s:ByteArray),s.size+nQ l<=1000000000->bd (Wc k) (fun s=>some s) l i s=some (mC k s l)
 | [],i,s,_=>rfl
 |x::l,i,s,h=>by
  rw[z59] at h
  rw[bd,Wc,show mC k s (x::l)=mC k (if x.1=k then s++x.2.1 else s) l from rfl]
  by_cases e:x.1=k
  ·rw[zT e,if_pos e,zC,zT (by omega),zC]
   exact ze0 k l (i+1) _ (by rw[ByteArray.size_append];omega)
  ·rw[zF e,if_neg e,zD]
   exact ze0 k l (i+1) _ (by omega)
theorem Le(l:List Ev)(k:Int)(hl:l.length<=1000000000)(hs:nQ l<=1000000000):sX l k=some (mC k (bs []) l):=by
 unfold sX Uf
 dsimp only
 have:=lz ((0:Int),bs [],()) l (by rw[zh];omega) (Wc k) (fun s=>some s) (fun j i s=>Qi j l k s i)
  (fun j i s hi oo=>by
    show Fm l k s i _ _=_
    unfold Fm Wc
    rw[zT oo,zC,zn hi oo,zn hi oo])
  (fun j s=>by
    show Fm l k s _ _ _=_
    unfold Fm
    rw[zF (by omega)];rfl) (bs [])
 have hz:(bs []).size=0:=rfl
 rw[this,ze0 k l 0 (bs []) (by omega),zc]
 rfl
theorem NM(n:Int)(s:ByteArray)(hs:s.size<=1000000000):sW n s=some (c8 n 0 (bl s)):=by
 unfold sW T9 c8
 rw[zqy n s (by omega),zc]
 have hlen:(cT n 0 (bl s)).2.2.1.length<=s.size:=by
  have h1:=(V0 n _ (bl s) 0 (Nat.le_refl _) (by omega) (fun x hx=>jt hx)).1
  have h2:=S7 n [] (bl s)
  have h3:=Sw n [] (bl s)
  rw[Sx,List.nil_append,List.nil_append] at h3
  unfold c8 at h1
  rw[h3,List.length_append] at h1
  rw[zg] at h2
  by_cases h4:(0:Int)<=(cT n 0 (bl s)).2.2.2
  ·rw[if_pos h4,List.length_singleton] at h1;omega
  ·rw[<-h3] at h1
   have h5:=Gr n 0 (bl s) (by omega) (fun x hx=>jt hx)
   rw[if_neg h4] at h1 h5
   have h6:=akt n (bl s) (fun x hx=>jt hx)
   have h7:=(zr1 n (bl s)).2
   rw[h6] at h7
   rw[zg] at h7
   rw[h5] at h1
   simp at h1 h7
   omega
 dsimp only
 by_cases h4:(0:Int)<=(cT n 0 (bl s)).2.2.2
 ·rw[zT h4,if_pos h4,zC,zT (by simp only[List.length_cons,List.length_nil];omega)];rfl
 ·rw[zF h4,if_neg h4,List.append_nil];rfl
abbrev OS:=Int×Int×Int
abbrev sE:=Option (Sum (List Ev×Bool×Int×Int×Int×Bool×qD×Gw) (List Ev×Int×Int×Int×Bool×qD×Gw))
def ku(l:List Ev)(t:Bool)(c:qD)(g:Gw)(i:Int)(o:fj)(s:OS)(K:OS->sE):sE:=
 bif(decide (o.2.1=4)) then K (zW zI (s.1+1),zW zI (s.2.1+1),s.2.2)
 else(bif(decide (o.2.1=3)) then(bif(!(decide (o.2.2.2.1=zW zI (s.2.2+1)))) then some (.inl (l,false,s.1,s.2.1,zW zI (s.2.2+1),t,c,g)) else(bif(!(decide (o.2.2.1=bs []))) then some (.inl (l,false,s.1,s.2.1,zW zI (s.2.2+1),t,c,g)) else K (zW zI (s.1+1),s.2.1,zW zI (s.2.2+1))))
 else(bif(decide (o.2.1=1)) then(bif(decide ((o.2.2.1.size:Int)<3)) then some (.inl (l,false,s.1,s.2.1,s.2.2,t,c,g)) else K (zW zI (s.1+1),s.2.1,s.2.2))
 else(bif(decide (o.2.1=2)) then(bif(decide ((o.2.2.1.size:Int)<3)) then some (.inl (l,false,s.1,s.2.1,s.2.2,t,c,g)) else K (zW zI (s.1+1),s.2.1,s.2.2)) else some (.inl (l,false,s.1,s.2.1,s.2.2,t,c,g)))))
theorem KJ(l:List Ev)(t:Bool)(c:qD)(g:Gw)(i k:Int)(x:ByteArray)(d:Int)(s:OS)(K:OS->sE):ku l t c g i (k,4,x,d,()) s K=K (zW zI (s.1+1),zW zI (s.2.1+1),s.2.2):=rfl
theorem KI(l:List Ev)(t:Bool)(c:qD)(g:Gw)(i k a b d:Int)(K:OS->sE):ku l t c g i (k,3,bs [],zW zI (d+1),()) (a,b,d) K=K (zW zI (a+1),b,zW zI (d+1)):=by
 unfold ku
 dsimp only
 rw[zF (by decide),zD,zT rfl,zC,zT rfl,Bool.not_true,zD,zT rfl,Bool.not_true,zD]
theorem aoA(l:List Ev)(t:Bool)(c:qD)(g:Gw)(i k kind:Int)(x:ByteArray)(d:Int)(s:OS)(K:OS->sE)(hk:kind=1\/kind=2)(hx:3<=x.size):ku l t c g i (k,kind,x,d,()) s K=K (zW zI (s.1+1),s.2.1,s.2.2):=by
 unfold ku
 dsimp only
 rw[zF (by omega),zD,zF (by omega),zD]
 rcases hk with rfl|rfl
 ·rw[zT rfl,zC,zF (by omega),zD]
 ·rw[zF (by decide),zD,zT rfl,zC,zF (by omega),zD]
section
variable (p q:aV) (n:Int) (h:ct p q) (hc:(eW p q n).1=0)
include h hc
theorem Nq(l:List Ev)(t:Bool)(c:qD)(g:Gw):∀(its:List Item) (i:Int) (a b:Nat) (d:Int),(∀it∈its,vM it)->a+its.length<=1000000000->b+its.length<=1000000000->
 bd (ku l t c g) (fun s=>some (.inr (l,s.1,s.2.1,s.2.2,t,c,g))) (bC p q n d its).1 i ((a:Int),(b:Int),d)=some (.inr (l,((a+its.length:Nat):Int),((b+fZ its:Nat):Int),(bC p q n d its).2,t,c,g))
 | [],i,a,b,d,_,_,_=>rfl
 |it::its,i,a,b,d,ho,ha,hb=>by
  obtain⟨k,x⟩:=it
  rw[List.length_cons] at ha hb
  have ih:=Nq l t c g its (i+1)
  have hr:∀it∈its,vM it:=fun y hy=>ho y (by simp [hy])
  obtain⟨hk,hx⟩:=ho (k,x) (by simp)
  rw[bC]
  dsimp only
  rw[bd,List.length_cons]
  cases x with
  |none=>
   have hd:fZ ((k,none)::its)=1+fZ its:=by unfold fZ;rw[List.map_cons,List.sum_cons,if_pos rfl]
   rw[show kx p q n d (k,none)=((k,4,bs [],d,()),d) from rfl,KJ]
   dsimp only
   rw[zq (by omega),zq (by omega),ih (a+1) (b+1) d hr (by omega) (by omega),hd,show a+1+its.length=a+(its.length+1) by omega,show b+1+fZ its=b+(1+fZ its) by omega]
  |some x=>
   have hd:fZ ((k,some x)::its)=fZ its:=by unfold fZ;rw[List.map_cons,List.sum_cons,if_neg (by simp),Nat.zero_add]
   rcases akm h hc hk d x (hx x rfl) with e|⟨lk,kind,s,e,hkd,hs⟩
   ·have e2:kx p q n d (k,some x)=((k,3,bs [],zW zI (d+1),()),zW zI (d+1)):=e
    rw[e2,KI]
    dsimp only
    rw[zq (by omega),ih (a+1) b _ hr (by omega) (by omega),hd,show a+1+its.length=a+(its.length+1) by omega]
   ·have e2:kx p q n d (k,some x)=((lk,kind,s,d,()),d):=e
    rw[e2,aoA _ _ _ _ _ _ _ _ _ _ _ hkd hs]
    dsimp only
    rw[zq (by omega),ih (a+1) b d hr (by omega) (by omega),hd,show a+1+its.length=a+(its.length+1) by omega]
end
theorem agO(l:List Ev)(hl:l.length<=1000000)(hs:nQ l<=1000000)(a b d:Int)(t:Bool)(c:qD)(g:Gw)(n:Int)(hn:c.2.1=n):
 Bm ai l a b d 0 t 0 c g=some (a,b,d,(((c8 n 0 (bl (mC 0 (bs []) l))).length+(c8 n 0 (bl (mC 1 (bs []) l))).length:Nat):Int),t,g):=by
 obtain⟨k,hk⟩:=Hn
 have hz:(bs []).size=0:=rfl
 have s0:=P0 0 l (bs [])
 have s1:=P0 1 l (bs [])
 have hlen:∀s:ByteArray,s.size<=1000000->(c8 n 0 (bl s)).length<=1000001:=fun s hs=>by
  have h1:=(V0 n _ (bl s) 0 (Nat.le_refl _) (by omega) (fun x hx=>jt hx)).1
  have h2:=S7 n [] (bl s)
  have h3:=Sw n [] (bl s)
  rw[Sx,List.nil_append,List.nil_append] at h3
  rw[zg,<-h3] at h2
  omega
 have l0:=hlen (mC 0 (bs []) l) (by omega)
 have l1:=hlen (mC 1 (bs []) l) (by omega)
 rw[hk]
 rw[Bm,He,zT (by decide:(0:Int)<2),zC,Le l 0 (by omega) (by omega),zc,hn,NM n _ (by omega),zc]
 rw[xT,Int.zero_add,zi (by omega) (by omega)]
 rw[Bm,He,zT (by decide:(1:Int)<2),zC,Le l 1 (by omega) (by omega),zc,hn,NM n _ (by omega),zc]
 rw[xW,zi (by omega) (by omega)]
 rw[Bm,He,zF (by decide:¬(2:Int)<2),zD]
 rw[Int.natCast_add]
theorem iX(c:qD)(l:List Ev)(hc:Wf Wd c)(hl:Wf (.sl 0 tEv) l):Ia c l=some true:=by
 obtain⟨p,q,n,g,b,rfl,hg,fm,hb,hs,hm⟩:=amj hc hl 2500 (by omega) (by omega)
 unfold Ia XM
 rw[hm,zc]
 cases g with
 |true=>simp only[Bool.true_or,zC,Sum.elim_inl,VW,zc,Bool.not_true,zD]
 |false=>
 have h:=fm rfl
 cases b with
 |true=>simp only[Bool.or_true,Bool.true_or,zC,Sum.elim_inl,VW,zc,Bool.not_true,zD]
 |false=>
 have hs:=hs rfl
 by_cases h0:(eW p q n).1=0
 case neg=>simp only[zF h0,Bool.or_false,Bool.not_false,Bool.or_true,zC,Sum.elim_inl,VW,zc,Bool.not_true,zD]
 rw[zT h0,Bool.or_false,Bool.not_true,Bool.or_false,zD,Sum.elim_inr,VW,zc,Bool.not_true,zD]
 dsimp only
 have hz:(bs []).size=0:=rfl
 rw[zD,ajk p q n h (bs []) (bs []) 0 l (by omega) (by omega),zc]
 have hi:=L2 n l (bs []) (bs [])
 have Ze:=agw n l
 have aoL:=agx n l
 have Zp:=aoz n l (by omega)
 have aX:=fun G=>Nq p q n h h0 l true ([p,q],n,()) G (cq n (bs [],bs []) l).1 0 0 0 0 Zp (by omega) (by omega)
 have hG:(gw ([p,q],n,()) n (cq n (bs [],bs []) l).2.1 (cq n (bs [],bs []) l).2.2 (bC p q n 0 (cq n (bs [],bs []) l).1).2).2.2=(bC p q n 0 (cq n (bs [],bs []) l).1).2:=rfl
 generalize gw ([p,q],n,()) n (cq n (bs [],bs []) l).2.1 (cq n (bs [],bs []) l).2.2 (bC p q n 0 (cq n (bs [],bs []) l).1).2=G at hG⊢
 have hlen:=Pw p q n (cq n (bs [],bs []) l).1 0
 have:=cr ((0:Int),(0:Int),bs [],(0:Int),()) (bC p q n 0 (cq n (bs [],bs []) l).1).1 (by rw[hlen,zh];omega) (ku l true ([p,q],n,()) G) (fun s=>some (.inr (l,s.1,s.2.1,s.2.2,true,([p,q],n,()),G)))
  (fun j i s=>Rh j l s.1 s.2.1 s.2.2 true (bC p q n 0 (cq n (bs [],bs []) l).1).1 ((bC p q n 0 (cq n (bs [],bs []) l).1).1.length:Int) i ([p,q],n,()) G) (fun j i s=>rfl) (0,0,0)
 dsimp only
 refine(congrArg (fun o=>Option.bind o _) (this.trans (aX G))).trans ?_
 rw[zc,Sum.elim_inr]
 unfold XO
 dsimp only
 rw[agO l (by omega) (by omega) _ _ _ true ([p,q],n,()) G n rfl,zc]
 unfold XP
 dsimp only
 rw[zT (by omega),zC,abP,zc]
 dsimp only
 rw[hG,zT rfl,zC,zT (by omega)]
end bp

namespace Go.Proofs.YtpjkbbihjoflnaaGreatDoor
noncomputable section
open Go Go.Ref bp
abbrev y0:Go.Ref.Ty:=(.pair .bool (.pair (.sl 5 (.int .u8)) .unit))
abbrev y1:Go.Ref.Ty:=(.pair (.sl 109 (.pair .str (.pair .str .unit))) .unit)
abbrev y2:Go.Ref.Ty:=(.pair (.int .i64) (.pair .str (.pair (.int .i64) .unit)))
abbrev y3:Go.Ref.Ty:=(.pair (.sl 107 (.pair (.int .i64) (.pair .str .unit))) .unit)
abbrev y4:Go.Ref.Ty:=(.pair (.sl 208 (.pair (.int .i64) (.pair .str .unit))) .unit)
abbrev y5:Go.Ref.Ty:=(.pair (.int .i64) (.pair (.int .i64) (.pair (.int .i64) .unit)))
abbrev y6:Go.Ref.Ty:=(.pair (.int .i64) y0)
abbrev y7:Go.Ref.Ty:=(.pair .str y1)
abbrev y8:Go.Ref.Ty:=(.pair .str y4)
abbrev y9:Go.Ref.Ty:=(.pair (.int .i64) y2)
abbrev y10:Go.Ref.Ty:=(.pair (.int .i64) y5)
abbrev y11:Go.Ref.Ty:=(.pair (.int .i64) y7)
abbrev y12:Go.Ref.Ty:=(.pair (.sl 3 (.int .i64)) y3)
abbrev cK:Go.Ref.Ty:=(.pair (.int .i64) y10)
abbrev y14:Go.Ref.Ty:=(.pair (.int .i64) y11)
abbrev cA:Go.Ref.Ty:=(.pair (.int .i64) y14)
abbrev y16:Go.Ref.Ty:=(.pair (.sl 127 cK) .unit)
abbrev y17:Go.Ref.Ty:=(.pair (.int .i64) y16)
abbrev y18:Go.Ref.Ty:=(.pair (.sl 102 cA) .unit)
abbrev aK:Go.Ref.Ty:=(.pair (.int .i64) y17)
abbrev cD:Go.Ref.Ty:=(.pair (.sl 109 (.pair .str (.pair .str .unit))) y18)
abbrev y21:Go.Ref.Ty:=(.pair cD y12)
abbrev cw:Go.Ref.Ty:=(.pair aK y21)
abbrev bA:Go.Ref.Ty:=(.pair (.arr 2 cw) (.pair (.int .i64) .unit))
def Gl:List (Option Ty):=[none,none,some (.int .i64),some (.int .i64),some .bool,some (.int .u8),some (.int .u8),some (.pair (.int .i64) (.pair (.int .i64) (.pair .bool (.pair (.int .u8) .unit)))),some (.pair (.int .i64) (.pair (.int .i64) (.pair .bool (.pair (.int .u8) .unit)))),some .str,some .str,some .str,some (.int .u64),none,none,none,none,none,none,none,none,some (.int .i32),some (.sl 127 cK),some aK,some aK,some (.sl 109 (.pair .str (.pair .str .unit))),some (.sl 102 cA),some cD,some cD,some (.sl 3 (.int .i64)),some (.sl 107 (.pair (.int .i64) (.pair .str .unit))),some cw,some cw,some (.arr 2 cw),some bA,some bA,none,none,none,some (.int .i64),none,none,none,none,none,none,some (.sl 57 (.pair (.int .i64) (.pair .str .unit))),none,none,none,none,some (.arr 2 .str),some (.arr 2 (.int .i64)),some (.arr 2 .bool),some (.pair (.arr 2 .str) (.pair (.arr 2 (.int .i64)) (.pair (.arr 2 .bool) (.pair (.int .i64) .unit)))),some (.pair (.arr 2 .str) (.pair (.arr 2 (.int .i64)) (.pair (.arr 2 .bool) (.pair (.int .i64) .unit)))),some (.pair (.int .i64) (.pair .str .unit)),some (.pair (.int .i64) (.pair .str .unit)),none,some (.sl 71 y9),none,none,none,none,none,none,some (.sl 9 .str),none,none,none,some y9,some y9,none,none,none,none,none,none,none,none,none,none,none,none,none,none,none,none,none,none,none,none,none,none,none,none,none,none,none,some (.sl 5 (.int .u8)),none,some cA,some cA,none,none,none,some (.pair (.int .i64) (.pair .str .unit)),some (.pair (.int .i64) (.pair .str .unit)),some (.pair .str (.pair .str .unit)),some (.pair .str (.pair .str .unit)),none,none,none,some y6,some y6,none,none,none,none,none,none,none,none,none,some (.sl 29 (.sl 3 (.int .i64))),none,some cK,some cK,none,none,none,none,none,none,some (.sl 24 aK),none,none,some (.int .u64),some (.pair (.int .u64) (.pair (.int .u64) .unit)),some (.pair (.int .u64) (.pair (.int .u64) .unit)),none,none,none,none,none,none,none,none,none,none,none,none,none,none,some (.int .u64),some (.sl 208 (.pair (.int .i64) (.pair .str .unit))),some y8,some y8,some (.pair (.int .i64) (.pair (.int .i64) .unit)),some (.pair (.int .i64) (.pair (.int .i64) .unit)),none,none,none,none,none,none,none,none,none,none,none,none,none,none,none,none,none,none,none,none,none,none,none,none,none,none,some (.sl 245 (.pair (.int .i64) (.pair .str .unit))),none,none,none,none,none,none,none,none,none,none,none,none,none,none,none,none,none,none,none,none,some (.pair (.int .i64) (.pair .str .unit)),some (.pair (.int .i64) (.pair .str .unit)),none,none,none,none,none,none,none,none,none,none,none,none,none,none,none,none,none,none,none,none,none,none,none,none,none,none,none,none,none,none,none,none,none,none,none,some (.pair (.int .i64) (.pair .str .unit)),some (.pair (.int .i64) (.pair .str .unit)),none,none,none,some (.sl 39 (.int .i64)),none,none,some (.arr 8 (.int .u8)),none,none,none,none,none,none,none,none,none,none,none,none,none,none,none,none,none,none,none,none,none,none,none,none,none,none,none,none,none,none,none,none,none,none,none,none,none,none,some (.arr 256 .bool),some (.arr 256 .bool),none,none,none,none,some (.int .u32),none,none,none,none,none,none,none,none,some (.arr 256 (.int .u8)),some (.pair (.int .u8) (.pair (.int .u8) .unit)),some (.pair (.int .u8) (.pair (.int .u8) .unit)),some (.arr 16 (.pair (.int .u8) (.pair (.int .u8) .unit))),none,none,none,none,none,none,none,none,some (.int .u8),some (.int .u8),none,some (.int .i32),some (.int .i32),none,none]
def YQ:List Nat:=[0,8,8,8,1,1,1,24,24,16,16,16,8,24,24,8,8,8,8,8,16,4,24,40,40,24,24,48,48,24,24,136,136,272,280,280,8,8,8,8,0,8,8,8,8,8,24,0,8,8,8,32,16,2,64,64,24,24,8,24,8,8,8,8,8,8,24,8,8,8,40,40,8,8,8,8,0,8,8,8,8,8,0,8,8,16,304,304,8,0,8,8,0,8,0,8,8,8,8,24,8,64,64,8,8,8,24,24,32,32,8,8,8,40,40,8,8,8,8,0,8,0,8,8,24,8,40,40,0,8,0,8,8,8,24,8,8,8,16,16,8,8,8,8,8,8,8,8,8,8,0,8,8,8,8,24,40,40,16,16,0,8,0,8,8,0,8,8,8,8,8,8,8,8,0,8,0,8,8,8,8,8,0,8,8,8,24,0,8,8,8,8,8,8,8,8,8,32,32,16,16,0,8,8,8,8,8,24,24,8,8,0,8,0,8,8,8,0,8,0,8,0,8,0,8,8,8,8,0,8,8,8,8,0,8,8,8,0,8,8,8,8,8,8,24,24,8,8,8,24,0,8,8,8,8,8,8,0,8,0,8,8,8,8,0,8,0,8,8,0,8,8,8,8,8,8,8,8,8,8,8,8,8,8,8,8,0,8,8,8,8,256,256,0,8,8,8,4,0,8,8,0,8,8,8,8,256,2,2,32,8,8,8,40,40,0,0,0,1,1,8,4,4,48,48]
def AV:List Bool:=[false,false,false,false,false,false,false,false,false,false,false,false,false,false,false,true,true,true,false,false,false,false,false,false,false,false,false,false,false,false,false,false,false,false,false,false,false,false,true,false,false,false,false,false,false,false,false,false,false,false,true,false,false,false,false,false,false,false,false,false,false,false,false,false,false,false,false,false,false,false,false,false,false,false,false,false,false,false,false,false,false,false,false,false,true,false,false,false,false,false,false,false,false,false,false,false,false,false,false,false,false,false,false,false,false,false,false,false,false,false,false,false,false,false,false,false,false,false,false,false,false,false,false,false,false,false,false,false,false,false,false,false,false,false,false,false,false,false,false,false,false,false,false,false,false,false,false,false,false,false,false,false,false,false,false,false,false,false,false,false,false,false,false,false,false,false,false,false,false,false,false,false,false,false,false,false,false,false,false,false,false,false,false,false,false,false,false,false,false,false,false,false,false,false,false,false,true,false,false,false,false,false,false,false,false,false,false,false,false,false,false,false,false,false,false,false,false,false,false,false,false,false,false,false,false,false,false,false,false,false,false,false,false,false,false,false,false,false,false,false,false,false,false,false,false,false,false,false,false,false,false,false,false,false,false,false,true,false,false,false,false,false,false,false,false,false,false,false,false,false,false,false,false,false,false,false,false,false,false,false,false,false,false,false,false,false,false,false,false,false,false,false,false,false,false,false,true,false,false,false,false,false,false,false,false,false,false,false,false,false,false,false,false,false,false,false,false,false,false,false,false,false,false,false,false]
def Sb:List (TypeId×TypeId×TypeId):=[(135,9,4),(277,3,4)]
def b9:qT:=⟨Gl,YQ,AV,Sb⟩
theorem EL:b9.ok Tryz.prog=true:=by kernel_rfl
theorem ek:∀a b c d,ap Tryz.prog (b9.env a b c d):=qT.oi EL
abbrev e0(ps:List Ty):Env:=b9.env (fun _=>[]) (fun _=>[]) [] ps
abbrev uS(n:Nat)(l:List (List SV)):List (List SV):=Nat.rec (motive:=fun _=>List (List SV)) l (fun _ r=>[.undef]::r) n
abbrev nS(n:Nat)(l:List (Option bE)):List (Option bE):=Nat.rec (motive:=fun _=>List (Option bE)) l (fun _ r=>none::r) n
def RJ:ah:=ah.none
theorem o0:aP Tryz.prog RJ:= .none (by kernel_rfl)
variable (R:Type) (kk k:Nat) (K:KF R) (J:KX R)
def Wp:Env:=b9.env (fun i=>bif Nat.beq i 4 then [1,3] else []) (fun i=>bif Nat.beq i 4 then [2] else []) [] [cw]
def TQ(a:Int)(b:au):Option R:=aB (ev Wp (RJ R) kk (sub [1,1,0,1,0,0] (cd Tryz.f34))) [1,3] [2] k ⟨uS 1 ([.ptr 2 cw []]::uS 1 ([tI a]::uS 32 [])),nS 2 ((some ⟨cw,b,[]⟩)::nS 34 [])⟩ J
def zeu(a:Bool):State:=⟨uS 2 ([tB a]::uS 33 []),nS 37 []⟩
def zev:State:=⟨uS 36 [],nS 37 []⟩
def zxl:KX R:=(zj 0 (aU Wp (RJ R) kk (sub [1,1,1] (cd Tryz.f34)) (aS Wp Tryz.f34.results.toList none K)))
theorem ak6(a:Int)(b:au):TQ R kk (k+1) J a b=
 zxm a b (fun a0=>J .ret (zeu a0)) (TQ R kk k J) (J (.exit 0) (zev)):=by kernel_rfl
theorem aex(a:Bool):zxl R kk K .ret (zeu a)=
 zxn a (fun a0=>K [tB a0] none):=by kernel_rfl
theorem aey:zxl R kk K (.exit 0) (zev)=
 zxo (fun a0=>K [tB a0] none):=by kernel_rfl
theorem ah2{kk:Nat}(hF:kk=ai)(t3:Int)(cZ:au):TQ R kk k J t3 cZ=(Qf k t3 cZ).bind fun e=>(Sum.elim (fun(we:Bool)=>J .ret (zeu we)) (fun(we:Unit)=>J (.exit 0) (zev)) e):=by
 induction k generalizing t3 cZ with
 |zero=>rfl
 |succ k ih=>
  rw[ak6]
  simp only[Qf,zxm,ih,aD]
def RK:ah:=RJ.add 34 [cw] (cO cw mI (fun _ r K=>K [tB r] none))
theorem o1:aP Tryz.prog RK:=cP Wp Tryz.f34 (fun R kk x0 K=>TR x0 (fun a0=>K [tB a0] none) (TQ R kk kk (zxl R kk K))) o0 (ek _ _ _ _) Tryz.func34 (by kernel_rfl) rfl (fun _ _ _ _ _ _ h=>h _ _) (fun _ _ _ _=>by kernel_rfl) fun R kk e x0 K=>by
 simp only[mI,TR,zxn,zxo,ah2 (hF:=e),aex,aey,aD,<-e]
def Wl:Env:=b9.env (fun i=>bif Nat.beq i 4 then [1,3] else []) (fun i=>bif Nat.beq i 4 then [2] else []) [] [cA]
def Tt(a:Int)(b:aF):Option R:=aB (ev Wl (RK R) kk (sub [1,1,0,1,0,0] (cd Tryz.f54))) [1,3] [2] k ⟨uS 1 ([.ptr 2 cA []]::uS 1 ([tI a]::uS 35 [])),nS 2 ((some ⟨cA,b,[]⟩)::nS 37 [])⟩ J
def zee(a:Bool):State:=⟨uS 2 ([tB a]::uS 36 []),nS 40 []⟩
def zef:State:=⟨uS 39 [],nS 40 []⟩
def zwz:KX R:=(zj 0 (aU Wl (RK R) kk (sub [1,1,1] (cd Tryz.f54)) (aS Wl Tryz.f54.results.toList none K)))
theorem akX(a:Int)(b:aF):Tt R kk (k+1) J a b=
 P6 a b (fun a0=>J .ret (zee a0)) (Tt R kk k J) (J (.exit 0) (zef)):=by kernel_rfl
theorem aeg(a:Bool):zwz R kk K .ret (zee a)=
 zx0 a (fun a0=>K [tB a0] none):=by kernel_rfl
theorem aeh:zwz R kk K (.exit 0) (zef)=
 zx1 (fun a0=>K [tB a0] none):=by kernel_rfl
theorem ahT{kk:Nat}(hF:kk=ai)(t3:Int)(cZ:aF):Tt R kk k J t3 cZ=(x6 k t3 cZ).bind fun e=>(Sum.elim (fun(we:Bool)=>J .ret (zee we)) (fun(we:Unit)=>J (.exit 0) (zef)) e):=by
 induction k generalizing t3 cZ with
 |zero=>rfl
 |succ k ih=>
  rw[akX]
  simp only[x6,P6,ih,aD]
def F0:ah:=RK.add 54 [cA] (cO cA nX (fun _ r K=>K [tB r] none))
theorem o2:aP Tryz.prog F0:=cP Wl Tryz.f54 (fun R kk x0 K=>Tu x0 (fun a0=>K [tB a0] none) (Tt R kk kk (zwz R kk K))) o1 (ek _ _ _ _) Tryz.func54 (by kernel_rfl) rfl (fun _ _ _ _ _ _ h=>h _ _) (fun _ _ _ _=>by kernel_rfl) fun R kk e x0 K=>by
 simp only[nX,Tu,zx0,zx1,ahT (hF:=e),aeg,aeh,aD,<-e]
def FB:Env:=b9.env (fun i=>bif Nat.beq i 4 then [1,3] else bif Nat.beq i 9 then [1,4] else []) (fun i=>bif Nat.beq i 4 then [1,2] else bif Nat.beq i 9 then [2] else []) [] [cD]
def TE(a:Int)(b:ay):Option R:=aB (ev FB (F0 R) kk (sub [1,1,0,1,0,0] (cd Tryz.f35))) [1,3] [1,2] k ⟨uS 1 ([.ptr 2 cD []]::uS 1 ([tI a]::uS 49 [])),nS 2 ((some ⟨cD,b,[]⟩)::nS 51 [])⟩ J
def zem(a:Bool)(b:ay):State:=⟨uS 1 ([.ptr 2 cD []]::[tB a]::uS 50 []),nS 2 ((some ⟨cD,b,[]⟩)::nS 51 [])⟩
def zen(a:ay):State:=⟨uS 1 ([.ptr 2 cD []]::uS 51 []),nS 2 ((some ⟨cD,a,[]⟩)::nS 51 [])⟩
def zxb:KX R:=(zj 0 (aU FB (F0 R) kk (sub [1,1,1] (cd Tryz.f35)) (aS FB Tryz.f35.results.toList none K)))
def TF(a:Int)(b:ay):Option R:=aB (ev FB (F0 R) kk (sub [1,1,1,0,1,0,0] (cd Tryz.f35))) [1,4] [2] k ⟨uS 1 ([.ptr 2 cD []]::uS 2 ([tI a]::uS 48 [])),nS 2 ((some ⟨cD,b,[]⟩)::nS 51 [])⟩ J
def zeo(a:Bool):State:=⟨uS 2 ([tB a]::uS 50 []),nS 54 []⟩
def zep:State:=⟨uS 53 [],nS 54 []⟩
def zxc:KX R:=(zj 2 (aU FB (F0 R) kk (sub [1,1,1,1] (cd Tryz.f35)) (aS FB Tryz.f35.results.toList none K)))
theorem ak2(a:Int)(b:ay):TE R kk (k+1) J a b=
 Qc a b (fun a0 a1=>J .ret (zem a0 a1)) (TE R kk k J) (fun a0=>J (.exit 0) (zen a0)):=by kernel_rfl
theorem aep(a:Bool)(b:ay):zxb R kk K .ret (zem a b)=
 zxd a b (fun a0=>K [tB a0] none):=by kernel_rfl
theorem aeq(a:ay):zxb R kk K (.exit 0) (zen a)=
 TH a (TF R kk kk (zxc R kk K)):=by kernel_rfl
theorem ak3(a:Int)(b:ay):TF R kk (k+1) J a b=
 zxe a b (fun a0=>J .ret (zeo a0)) (TF R kk k J) (J (.exit 2) (zep)):=by kernel_rfl
theorem aer(a:Bool):zxc R kk K .ret (zeo a)=
 zxf a (fun a0=>K [tB a0] none):=by kernel_rfl
theorem aes:zxc R kk K (.exit 2) (zep)=
 zxg (fun a0=>K [tB a0] none):=by kernel_rfl
theorem ahY{kk:Nat}(hF:kk=ai)(t3:Int)(cZ:ay):TE R kk k J t3 cZ=(x7 k t3 cZ).bind fun e=>(Sum.elim (fun(we:(Bool×ay))=>J .ret (zem we.1 we.2)) (fun(we:ay)=>J (.exit 0) (zen we)) e):=by
 induction k generalizing t3 cZ with
 |zero=>rfl
 |succ k ih=>
  rw[ak2]
  simp only[x7,Qc,ih,aD]
theorem ahZ{kk:Nat}(hF:kk=ai)(t4:Int)(cZ:ay):TF R kk k J t4 cZ=(Qb k t4 cZ).bind fun e=>(Sum.elim (fun(we:Bool)=>J .ret (zeo we)) (fun(we:Unit)=>J (.exit 2) (zep)) e):=by
 induction k generalizing t4 cZ with
 |zero=>rfl
 |succ k ih=>
  rw[ak3]
  simp only[Qb,zxe,ih,aD]
def Tb3:ah:=F0.add 35 [cD] (cO cD lQ (fun _ r K=>K [tB r] none))
theorem o3:aP Tryz.prog Tb3:=cP FB Tryz.f35 (fun R kk x0 K=>TG x0 (fun a0=>K [tB a0] none) (TE R kk kk (zxb R kk K))) o2 (ek _ _ _ _) Tryz.func35 (by kernel_rfl) rfl (fun _ _ _ _ _ _ h=>h _ _) (fun _ _ _ _=>by kernel_rfl) fun R kk e x0 K=>by
 simp only[lQ,TG,zxd,TH,zxf,zxg,ahY (hF:=e),ahZ (hF:=e),aep,aeq,aer,aes,aD,<-e]
def ane:Env:=e0 [bA]
def RL:ah:=Tb3.add 11 [bA] (cO bA mJ (fun _ r K=>K [tB r] none))
theorem o4:aP Tryz.prog RL:=cP ane Tryz.f11 (fun R kk x0 K=>TY x0 (fun a0=>K [tB a0] none)) o3 (ek _ _ _ _) Tryz.func11 (by kernel_rfl) rfl (fun _ _ _ _ _ _ h=>h _ _) (fun _ _ _ _=>by kernel_rfl) fun R kk e x0 K=>by
 simp only[mJ,TY,aD]
def Wx:Env:=b9.env (fun i=>bif Nat.beq i 3 then [0,1,5,6] else []) (fun i=>bif Nat.beq i 3 then [1,4,5] else []) [] [(.sl 57 (.pair (.int .i64) (.pair .str .unit))),(.int .i64)]
def Ua(a:al)(b c d:Int):Option R:=aB (ev Wx (RL R) kk (sub [1,1,0,1,0,0] (cd Tryz.f19))) [0,1,5,6] [1,4,5] k ⟨[.ak (.sl 57 (.pair (.int .i64) (.pair .str .unit))) a []]::[tI b]::uS 3 ([tI c]::[tI d]::uS 32 []),nS 40 []⟩ J
def zf6(a:Int)(b:Bool)(c:Int):State:=⟨uS 1 ([tI a]::uS 2 ([tB b]::[tI c]::uS 33 [])),nS 40 []⟩
def zf7(a b:Int):State:=⟨uS 1 ([tI a]::uS 3 ([tI b]::uS 33 [])),nS 40 []⟩
def zy7:KX R:=(zj 0 (aU Wx (RL R) kk (sub [1,1,1] (cd Tryz.f19)) (aS Wx Tryz.f19.results.toList none K)))
theorem ald(a:al)(b c d:Int):Ua R kk (k+1) J a b c d=
 Fl a b c d (fun a0 a1 a2=>J .ret (zf6 a0 a1 a2)) (Ua R kk k J) (fun a0 a1=>J (.exit 0) (zf7 a0 a1)):=by kernel_rfl
theorem aeI(a:Int)(b:Bool)(c:Int):zy7 R kk K .ret (zf6 a b c)=
 zy8 a b c (fun a0=>K [tB a0] none):=by kernel_rfl
theorem aeJ(a b:Int):zy7 R kk K (.exit 0) (zf7 a b)=
 zy9 a b (fun a0=>K [tB a0] none):=by kernel_rfl
theorem ah9{kk:Nat}(hF:kk=ai)(gl:al)(oG t5 t6:Int):Ua R kk k J gl oG t5 t6=(Qh k gl oG t5 t6).bind fun e=>(Sum.elim (fun(we:JB)=>J .ret (zf6 we.1 we.2.1 we.2.2)) (fun(we:(Int×Int))=>J (.exit 0) (zf7 we.1 we.2)) e):=by
 induction k generalizing gl oG t5 t6 with
 |zero=>rfl
 |succ k ih=>
  rw[ald]
  simp only[Qh,Fl,ih,aD]
def Tb5:ah:=RL.add 19 [(.sl 57 (.pair (.int .i64) (.pair .str .unit))),(.int .i64)] (dp (.sl 57 (.pair (.int .i64) (.pair .str .unit))) (.int .i64) nY (fun _ r K=>K [tB r] none))
theorem o5:aP Tryz.prog Tb5:=dx Wx Tryz.f19 (fun R kk x0 x1 K=>Ub x0 x1 (Ua R kk kk (zy7 R kk K))) o4 (ek _ _ _ _) Tryz.func19 (by kernel_rfl) rfl (fun _ _ _ _ _ _ h=>h _ _) (fun _ _ _ _ _=>by kernel_rfl) fun R kk e x0 x1 K=>by
 simp only[nY,Ub,zy8,zy9,ah9 (hF:=e),aeI,aeJ,aD,<-e]
def Ir:Env:=e0 [cK]
def RM:ah:=Tb5.add 109 [cK] (cO cK yD (fun _ r K=>K [tI r] none))
theorem o6:aP Tryz.prog RM:=cP Ir Tryz.f109 (fun R kk x0 K=>Yb x0 (fun a0=>K [tI a0] none)) o5 (ek _ _ _ _) Tryz.func109 (by kernel_rfl) rfl (fun _ _ _ _ _ _ h=>h _ _) (fun _ _ _ _=>by kernel_rfl) fun R kk e x0 K=>by
 simp only[yD,Yb,aD]
def pM:Env:=b9.env (fun i=>bif Nat.beq i 7 then [1,4,5] else []) (fun i=>bif Nat.beq i 7 then [2,3] else []) [] [aK]
def Yc(a b:Int)(c:af):Option R:=aB (ev pM (RM R) kk (sub [1,1,1,1,0,1,0,0] (cd Tryz.f108))) [1,4,5] [2,3] k ⟨uS 1 ([.ptr 2 aK []]::uS 2 ([tI a]::[tI b]::uS 49 [])),nS 2 ((some ⟨aK,c,[]⟩)::nS 53 [])⟩ J
def zq6(a b:Int):State:=⟨uS 2 ([tI a]::[tI b]::uS 51 []),nS 56 []⟩
def zq7:State:=⟨uS 55 [],nS 56 []⟩
def Es:KX R:=(zj 0 (aU pM (RM R) kk (sub [1,1,1,1,1] (cd Tryz.f108)) (aS pM Tryz.f108.results.toList none K)))
theorem aoj(a b:Int)(c:af):Yc R kk (k+1) J a b c=
 Rp a b c (fun a0 a1=>J .ret (zq6 a0 a1)) (Yc R kk k J) (J (.exit 0) (zq7)):=by kernel_rfl
theorem ajf(a b:Int):Es R kk K .ret (zq6 a b)=
 Yd a b (fun a0 a1=>K [tI a0,tI a1] none):=by kernel_rfl
theorem ajg:Es R kk K (.exit 0) (zq7)=
 Ye (fun a0 a1=>K [tI a0,tI a1] none):=by kernel_rfl
theorem amc{kk:Nat}(hF:kk=ai)(t4 t5:Int)(cZ:af):Yc R kk k J t4 t5 cZ=(yc k t4 t5 cZ).bind fun e=>(Sum.elim (fun(we:(Int×Int))=>J .ret (zq6 we.1 we.2)) (fun(we:Unit)=>J (.exit 0) (zq7)) e):=by
 induction k generalizing t4 t5 cZ with
 |zero=>rfl
 |succ k ih=>
  rw[aoj]
  simp only[yc,Rp,ih,aD]
def Tb7:ah:=RM.add 108 [aK] (cO aK Iw (fun _ r K=>K [tI r.1,tI r.2] none))
theorem o7:aP Tryz.prog Tb7:=cP pM Tryz.f108 (fun R kk x0 K=>Hj x0 (fun a0 a1=>K [tI a0,tI a1] none) (fun a0 a1 a2=>Yc R kk kk (Es R kk K) a0 a1 a2)) o6 (ek _ _ _ _) Tryz.func108 (by kernel_rfl) rfl (fun _ _ _ _ _ _ h=>h _ _) (fun _ _ _ _=>by kernel_rfl) fun R kk e x0 K=>by
 simp only[Iw,acm,Yd,Ye,amc (hF:=e),ajf,ajg,aD,<-e]
def Iz:Env:=e0 [aK]
def RN:ah:=Tb7.add 77 [aK] (cO aK BH (fun _ r K=>K [tB r] none))
theorem o8:aP Tryz.prog RN:=cP Iz Tryz.f77 (fun R kk x0 K=>Yi x0 (fun a0=>K [tB a0] none)) o7 (ek _ _ _ _) Tryz.func77 (by kernel_rfl) rfl (fun _ _ _ _ _ _ h=>h _ _) (fun _ _ _ _=>by kernel_rfl) fun R kk e x0 K=>by
 simp only[BH,Yi,aD]
def pN:Env:=b9.env (fun i=>bif Nat.beq i 2 then [1,2,5] else []) (fun i=>bif Nat.beq i 2 then [4] else []) [] [aK,(.int .i64)]
def Yg(a b:Int)(c:af):Option R:=aB (ev pN (RN R) kk (sub [1,0,1,0,0] (cd Tryz.f78))) [1,2,5] [4] k ⟨uS 1 ([tI a]::[.ptr 3 aK []]::uS 2 ([tI b]::uS 16 [])),nS 3 ((some ⟨aK,c,[]⟩)::nS 19 [])⟩ J
def zq8(a:Int):State:=⟨uS 4 ([tI a]::uS 17 []),nS 23 []⟩
def zq9:State:=⟨uS 22 [],nS 23 []⟩
def Et:KX R:=(zj 0 (aU pN (RN R) kk (sub [1,1] (cd Tryz.f78)) (aS pN Tryz.f78.results.toList none K)))
theorem aok(a b:Int)(c:af):Yg R kk (k+1) J a b c=
 Eu a b c (fun a0=>J .ret (zq8 a0)) (Yg R kk k J) (J (.exit 0) (zq9)):=by kernel_rfl
theorem ajh(a:Int):Et R kk K .ret (zq8 a)=
 Ew a (fun a0=>K [tI a0] none):=by kernel_rfl
theorem aji:Et R kk K (.exit 0) (zq9)=
 Ey (fun a0=>K [tI a0] none):=by kernel_rfl
theorem amd{kk:Nat}(hF:kk=ai)(fq t5:Int)(df:af):Yg R kk k J fq t5 df=(Rq k fq t5 df).bind fun e=>(Sum.elim (fun(we:Int)=>J .ret (zq8 we)) (fun(we:Unit)=>J (.exit 0) (zq9)) e):=by
 induction k generalizing fq t5 df with
 |zero=>rfl
 |succ k ih=>
  rw[aok]
  simp only[Rq,Eu,ih,aD]
def RO:ah:=RN.add 78 [aK,(.int .i64)] (dp aK (.int .i64) yF (fun _ r K=>K [tI r] none))
theorem o9:aP Tryz.prog RO:=dx pN Tryz.f78 (fun R kk x0 x1 K=>Yh x0 x1 (Yg R kk kk (Et R kk K))) o8 (ek _ _ _ _) Tryz.func78 (by kernel_rfl) rfl (fun _ _ _ _ _ _ h=>h _ _) (fun _ _ _ _ _=>by kernel_rfl) fun R kk e x0 x1 K=>by
 simp only[yF,Yh,Ew,Ey,amd (hF:=e),ajh,aji,aD,<-e]
def pE:Env:=b9.env (fun i=>bif Nat.beq i 2 then [0,1,5] else []) (fun i=>bif Nat.beq i 2 then [4] else []) [] [(.sl 3 (.int .i64)),(.int .i64)]
def X6(a:(List Int))(b c:Int):Option R:=aB (ev pE (RO R) kk (sub [1,0,1,0,0] (cd Tryz.f79))) [0,1,5] [4] k ⟨[.ak (.sl 3 (.int .i64)) a []]::[tI b]::uS 3 ([tI c]::uS 12 []),nS 19 []⟩ J
def zq0(a:Bool):State:=⟨uS 4 ([tB a]::uS 13 []),nS 19 []⟩
def zq1:State:=⟨uS 18 [],nS 19 []⟩
def Eg:KX R:=(zj 0 (aU pE (RO R) kk (sub [1,1] (cd Tryz.f79)) (aS pE Tryz.f79.results.toList none K)))
theorem aoe(a:(List Int))(b c:Int):X6 R kk (k+1) J a b c=
 Rj a b c (fun a0=>J .ret (zq0 a0)) (X6 R kk k J) (J (.exit 0) (zq1)):=by kernel_rfl
theorem ai9(a:Bool):Eg R kk K .ret (zq0 a)=
 Eh a (fun a0=>K [tB a0] none):=by kernel_rfl
theorem aja:Eg R kk K (.exit 0) (zq1)=
 Ei (fun a0=>K [tB a0] none):=by kernel_rfl
theorem al7{kk:Nat}(hF:kk=ai)(gl:(List Int))(ml t5:Int):X6 R kk k J gl ml t5=(FJ k gl ml t5).bind fun e=>(Sum.elim (fun(we:Bool)=>J .ret (zq0 we)) (fun(we:Unit)=>J (.exit 0) (zq1)) e):=by
 induction k generalizing gl ml t5 with
 |zero=>rfl
 |succ k ih=>
  rw[aoe]
  simp only[FJ,Rj,ih,aD]
def wl:ah:=RO.add 79 [(.sl 3 (.int .i64)),(.int .i64)] (dp (.sl 3 (.int .i64)) (.int .i64) Ik (fun _ r K=>K [tB r] none))
theorem o10:aP Tryz.prog wl:=dx pE Tryz.f79 (fun R kk x0 x1 K=>X7 x0 x1 (X6 R kk kk (Eg R kk K))) o9 (ek _ _ _ _) Tryz.func79 (by kernel_rfl) rfl (fun _ _ _ _ _ _ h=>h _ _) (fun _ _ _ _ _=>by kernel_rfl) fun R kk e x0 x1 K=>by
 simp only[Ik,X7,Eh,Ei,al7 (hF:=e),ai9,aja,aD,<-e]
def Wq:Env:=b9.env (fun i=>bif Nat.beq i 2 then [0,1,2,7] else []) (fun i=>bif Nat.beq i 2 then [6] else []) [] [(.sl 107 (.pair (.int .i64) (.pair .str .unit))),(.int .i64),(.int .i64)]
def TS(a:al)(b c d:Int):Option R:=aB (ev Wq (wl R) kk (sub [1,0,1,0,0] (cd Tryz.f80))) [0,1,2,7] [6] k ⟨[.ak (.sl 107 (.pair (.int .i64) (.pair .str .unit))) a []]::[tI b]::[tI c]::uS 4 ([tI d]::uS 13 []),nS 22 []⟩ J
def zew(a:Int):State:=⟨uS 6 ([tI a]::uS 14 []),nS 22 []⟩
def zex:State:=⟨uS 21 [],nS 22 []⟩
def zxp:KX R:=(zj 0 (aU Wq (wl R) kk (sub [1,1] (cd Tryz.f80)) (aS Wq Tryz.f80.results.toList none K)))
theorem ak7(a:al)(b c d:Int):TS R kk (k+1) J a b c d=
 Qg a b c d (fun a0=>J .ret (zew a0)) (TS R kk k J) (J (.exit 0) (zex)):=by kernel_rfl
theorem aez(a:Int):zxp R kk K .ret (zew a)=
 zxq a (fun a0=>K [tI a0] none):=by kernel_rfl
theorem aeA:zxp R kk K (.exit 0) (zex)=
 zxr (fun a0=>K [tI a0] none):=by kernel_rfl
theorem ah3{kk:Nat}(hF:kk=ai)(gl:al)(ml YT t7:Int):TS R kk k J gl ml YT t7=(Fi k gl ml YT t7).bind fun e=>(Sum.elim (fun(we:Int)=>J .ret (zew we)) (fun(we:Unit)=>J (.exit 0) (zex)) e):=by
 induction k generalizing gl ml YT t7 with
 |zero=>rfl
 |succ k ih=>
  rw[ak7]
  simp only[Fi,Qg,ih,aD]
def ID:ah:=wl.add 80 [(.sl 107 (.pair (.int .i64) (.pair .str .unit))),(.int .i64),(.int .i64)] (kH (.sl 107 (.pair (.int .i64) (.pair .str .unit))) (.int .i64) (.int .i64) qJ (fun _ r K=>K [tI r] none))
theorem o11:aP Tryz.prog ID:=kW Wq Tryz.f80 (fun R kk x0 x1 x2 K=>TT x0 x1 x2 (TS R kk kk (zxp R kk K))) o10 (ek _ _ _ _) Tryz.func80 (by kernel_rfl) rfl (fun _ _ _ _ _ _ h=>h _ _) (fun _ _ _ _ _ _=>by kernel_rfl) fun R kk e x0 x1 x2 K=>by
 simp only[qJ,TT,zxq,zxr,ah3 (hF:=e),aez,aeA,aD,<-e]
def Ij:Env:=e0 [(.int .i64),(.int .u8)]
def wo:ah:=ID.add 158 [(.int .i64),(.int .u8)] (dp (.int .i64) (.int .u8) yx (fun _ r K=>K [tB r] none))
theorem o12:aP Tryz.prog wo:=dx Ij Tryz.f158 (fun R kk x0 x1 K=>X2 x0 x1 (fun a0=>K [tB a0] none)) o11 (ek _ _ _ _) Tryz.func158 (by kernel_rfl) rfl (fun _ _ _ _ _ _ h=>h _ _) (fun _ _ _ _ _=>by kernel_rfl) fun R kk e x0 x1 K=>by
 simp only[yx,X2,aD]
def pC:Env:=b9.env (fun i=>bif Nat.beq i 2 then [0,1,5] else []) (fun i=>bif Nat.beq i 2 then [4] else []) [] [(.int .i64),.str]
def XY(a:Int)(b:ByteArray)(c:Int):Option R:=aB (ev pC (wo R) kk (sub [1,0,1,0,0] (cd Tryz.f110))) [0,1,5] [4] k ⟨[tI a]::[tS b]::uS 3 ([tI c]::uS 13 []),nS 20 []⟩ J
def zpw(a:Int):State:=⟨uS 4 ([tI a]::uS 14 []),nS 20 []⟩
def zpx:State:=⟨uS 19 [],nS 20 []⟩
def z162:KX R:=(zj 0 (aU pC (wo R) kk (sub [1,1] (cd Tryz.f110)) (aS pC Tryz.f110.results.toList none K)))
theorem aoc(a:Int)(b:ByteArray)(c:Int):XY R kk (k+1) J a b c=
 Ri a b c (fun a0=>J .ret (zpw a0)) (XY R kk k J) (J (.exit 0) (zpx)):=by kernel_rfl
theorem ai5(a:Int):z162 R kk K .ret (zpw a)=
 Ec a (fun a0=>K [tI a0] none):=by kernel_rfl
theorem ai6:z162 R kk K (.exit 0) (zpx)=
 Ed (fun a0=>K [tI a0] none):=by kernel_rfl
theorem al5{kk:Nat}(hF:kk=ai)(l7:Int)(jI:ByteArray)(t5:Int):XY R kk k J l7 jI t5=(FI k l7 jI t5).bind fun e=>(Sum.elim (fun(we:Int)=>J .ret (zpw we)) (fun(we:Unit)=>J (.exit 0) (zpx)) e):=by
 induction k generalizing l7 jI t5 with
 |zero=>rfl
 |succ k ih=>
  rw[aoc]
  simp only[FI,Ri,ih,aD]
def IE:ah:=wo.add 110 [(.int .i64),.str] (dp (.int .i64) .str Ii (fun _ r K=>K [tI r] none))
theorem o13:aP Tryz.prog IE:=dx pC Tryz.f110 (fun R kk x0 x1 K=>XZ x0 x1 (XY R kk kk (z162 R kk K))) o12 (ek _ _ _ _) Tryz.func110 (by kernel_rfl) rfl (fun _ _ _ _ _ _ h=>h _ _) (fun _ _ _ _ _=>by kernel_rfl) fun R kk e x0 x1 K=>by
 simp only[Ii,XZ,Ec,Ed,al5 (hF:=e),ai5,ai6,aD,<-e]
def Im:Env:=e0 [(.int .u8)]
def IF:ah:=IE.add 207 [(.int .u8)] (cO (.int .u8) yz (fun _ r K=>K [tI r] none))
theorem o14:aP Tryz.prog IF:=cP Im Tryz.f207 (fun R kk x0 K=>Ej x0 (fun a0=>K [tI a0] none)) o13 (ek _ _ _ _) Tryz.func207 (by kernel_rfl) rfl (fun _ _ _ _ _ _ h=>h _ _) (fun _ _ _ _=>by kernel_rfl) fun R kk e x0 K=>by
 simp only[yz,Ej,aD]
def Io:Env:=e0 [.str,(.int .i64)]
def IG:ah:=IF.add 159 [.str,(.int .i64)] (dp .str (.int .i64) yA (fun _ r K=>K [tI r.1,tI r.2.1,tI r.2.2] none))
theorem o15:aP Tryz.prog IG:=dx Io Tryz.f159 (fun R kk x0 x1 K=>Rk x0 x1 (fun a0 a1 a2=>K [tI a0,tI a1,tI a2] none)) o14 (ek _ _ _ _) Tryz.func159 (by kernel_rfl) rfl (fun _ _ _ _ _ _ h=>h _ _) (fun _ _ _ _ _=>by kernel_rfl) fun R kk e x0 x1 K=>by
 simp only[yA,Rk,aD]
def Ip:Env:=e0 [.str,(.int .i64)]
def wq:ah:=IG.add 160 [.str,(.int .i64)] (dp .str (.int .i64) yB (fun _ r K=>K [tI r.1,tI r.2.1,tI r.2.2] none))
theorem o16:aP Tryz.prog wq:=dx Ip Tryz.f160 (fun R kk x0 x1 K=>Rl x0 x1 (fun a0 a1 a2=>K [tI a0,tI a1,tI a2] none)) o15 (ek _ _ _ _) Tryz.func160 (by kernel_rfl) rfl (fun _ _ _ _ _ _ h=>h _ _) (fun _ _ _ _ _=>by kernel_rfl) fun R kk e x0 x1 K=>by
 simp only[yB,Rl,aD]
def pI:Env:=b9.env (fun i=>bif Nat.beq i 2 then [0,1,2,7] else []) (fun i=>bif Nat.beq i 2 then [6] else []) [] [(.sl 245 (.pair (.int .i64) (.pair .str .unit))),(.int .i64),(.int .i64)]
def X9(a:al)(b c d:Int):Option R:=aB (ev pI (wq R) kk (sub [1,0,1,0,0] (cd Tryz.f161))) [0,1,2,7] [6] k ⟨[.ak (.sl 245 (.pair (.int .i64) (.pair .str .unit))) a []]::[tI b]::[tI c]::uS 4 ([tI d]::uS 12 []),nS 21 []⟩ J
def zq4(a:Bool):State:=⟨uS 6 ([tB a]::uS 13 []),nS 21 []⟩
def zq5:State:=⟨uS 20 [],nS 21 []⟩
def Eo:KX R:=(zj 0 (aU pI (wq R) kk (sub [1,1] (cd Tryz.f161)) (aS pI Tryz.f161.results.toList none K)))
theorem aoh(a:al)(b c d:Int):X9 R kk (k+1) J a b c d=
 Ro a b c d (fun a0=>J .ret (zq4 a0)) (X9 R kk k J) (J (.exit 0) (zq5)):=by kernel_rfl
theorem ajd(a:Bool):Eo R kk K .ret (zq4 a)=
 Ep a (fun a0=>K [tB a0] none):=by kernel_rfl
theorem aje:Eo R kk K (.exit 0) (zq5)=
 Er (fun a0=>K [tB a0] none):=by kernel_rfl
theorem ama{kk:Nat}(hF:kk=ai)(gl:al)(ml uK t7:Int):X9 R kk k J gl ml uK t7=(FK k gl ml uK t7).bind fun e=>(Sum.elim (fun(we:Bool)=>J .ret (zq4 we)) (fun(we:Unit)=>J (.exit 0) (zq5)) e):=by
 induction k generalizing gl ml uK t7 with
 |zero=>rfl
 |succ k ih=>
  rw[aoh]
  simp only[FK,Ro,ih,aD]
def wu:ah:=wq.add 161 [(.sl 245 (.pair (.int .i64) (.pair .str .unit))),(.int .i64),(.int .i64)] (kH (.sl 245 (.pair (.int .i64) (.pair .str .unit))) (.int .i64) (.int .i64) Iq (fun _ r K=>K [tB r] none))
theorem o17:aP Tryz.prog wu:=kW pI Tryz.f161 (fun R kk x0 x1 x2 K=>Ya x0 x1 x2 (X9 R kk kk (Eo R kk K))) o16 (ek _ _ _ _) Tryz.func161 (by kernel_rfl) rfl (fun _ _ _ _ _ _ h=>h _ _) (fun _ _ _ _ _ _=>by kernel_rfl) fun R kk e x0 x1 x2 K=>by
 simp only[Iq,Ya,Ep,Er,ama (hF:=e),ajd,aje,aD,<-e]
def pH:Env:=b9.env (fun i=>bif Nat.beq i 3 then [0,5,6] else []) (fun i=>bif Nat.beq i 3 then [2,3,4,5] else []) [] [.str]
def X8(a:ByteArray)(b:al)(c:Int):Option R:=aB (ev pH (wu R) kk (sub [1,1,1,0,0,0] (cd Tryz.f111))) [0,5,6] [2,3,4,5] k ⟨[tS a]::uS 4 ([.ak (.sl 245 (.pair (.int .i64) (.pair .str .unit))) b [[]]]::[tI c]::uS 61 []),nS 69 []⟩ J
def zq2(a:al)(b c:Int)(d:al):State:=⟨uS 2 ([.ak (.sl 245 (.pair (.int .i64) (.pair .str .unit))) a [[]]]::[tI b]::[tI c]::[.ak (.sl 245 (.pair (.int .i64) (.pair .str .unit))) d [[]]]::uS 62 []),nS 69 []⟩
def zq3(a:al):State:=⟨uS 5 ([.ak (.sl 245 (.pair (.int .i64) (.pair .str .unit))) a [[]]]::uS 62 []),nS 69 []⟩
def Ek:KX R:=(zj 0 (aU pH (wu R) kk (sub [1,1,1,1] (cd Tryz.f111)) (aS pH Tryz.f111.results.toList none K)))
theorem aog(a:ByteArray)(b:al)(c:Int):X8 R kk (k+1) J a b c=
 Rn a b c (fun a0 a1 a2 a3=>J .ret (zq2 a0 a1 a2 a3)) (X8 R kk k J) (fun a0=>J (.exit 0) (zq3 a0)):=by kernel_rfl
theorem ajb(a:al)(b c:Int)(d:al):Ek R kk K .ret (zq2 a b c d)=
 Em a b c d (fun a0 a1 a2=>K [.ak (.sl 245 (.pair (.int .i64) (.pair .str .unit))) a0 [[]],tI a1,tI a2] none):=by kernel_rfl
theorem ajc(a:al):Ek R kk K (.exit 0) (zq3 a)=
 En a (fun a0 a1 a2=>K [.ak (.sl 245 (.pair (.int .i64) (.pair .str .unit))) a0 [],tI a1,tI a2] none):=by kernel_rfl
theorem al9{kk:Nat}(hF:kk=ai)(og:ByteArray)(t5:al)(t6:Int):X8 R kk k J og t5 t6=(Bn k og t5 t6).bind fun e=>(Sum.elim (fun(we:qW)=>J .ret (zq2 we.1 we.2.1 we.2.2.1 we.2.2.2)) (fun(we:al)=>J (.exit 0) (zq3 we)) e):=by
 induction k generalizing og t5 t6 with
 |zero=>rfl
 |succ k ih=>
  rw[aog]
  simp only[Bn,Rn,ih,aD]
def II:ah:=wu.add 111 [.str] (cO .str yC (fun _ r K=>(Sum.elim (fun(wr:jz)=>K [.ak (.sl 245 (.pair (.int .i64) (.pair .str .unit))) wr.1 [[]],tI wr.2.1,tI wr.2.2] none) (fun(wr:jz)=>K [.ak (.sl 245 (.pair (.int .i64) (.pair .str .unit))) wr.1 [],tI wr.2.1,tI wr.2.2] none) r)))
theorem o18:aP Tryz.prog II:=cP pH Tryz.f111 (fun R kk x0 K=>Rm x0 (X8 R kk kk (Ek R kk K))) o17 (ek _ _ _ _) Tryz.func111 (by kernel_rfl) rfl (fun _ _ _ _ _ _ h=>QT (fun _=>h _ _) (fun _=>h _ _)) (fun _ _ _ _=>by kernel_rfl) fun R kk e x0 K=>by
 simp only[yC,Rm,Em,En,al9 (hF:=e),ajb,ajc,aD,<-e]
def Is:Env:=e0 [cK,.str]
def qU:ah:=II.add 81 [cK,.str] (dp cK .str mP (fun _ r K=>K [tI r] none))
theorem o19:aP Tryz.prog qU:=dx Is Tryz.f81 (fun R kk x0 x1 K=>Hh x0 x1 (fun a0=>K [tI a0] none)) o18 (ek _ _ _ _) Tryz.func81 (by kernel_rfl) rfl (fun _ _ _ _ _ _ h=>h _ _) (fun _ _ _ _ _=>by kernel_rfl) fun R kk e x0 x1 K=>by
 simp only[mP,Hh,aD]
def z91:Env:=b9.env (fun i=>bif Nat.beq i 7 then [1,5,6] else bif Nat.beq i 16 then [1,5,7] else []) (fun i=>bif Nat.beq i 7 then [1,2,3,4,5] else bif Nat.beq i 16 then [1,2,3,4] else []) [] [cw]
def TK(a b:Int)(c:au):Option R:=aB (ev z91 (qU R) kk (sub [1,1,1,1,0,1,0,0] (cd Tryz.f60))) [1,5,6] [1,2,3,4,5] k ⟨uS 1 ([.ptr 2 cw []]::uS 3 ([tI a]::[tI b]::uS 109 [])),nS 2 ((some ⟨cw,c,[]⟩)::nS 114 [])⟩ J
def zeq(a b c d:Int)(e:au):State:=⟨uS 1 ([.ptr 2 cw []]::[tI a]::[tI b]::[tI c]::[tI d]::uS 110 []),nS 2 ((some ⟨cw,e,[]⟩)::nS 114 [])⟩
def zer(a:Int)(b:au):State:=⟨uS 1 ([.ptr 2 cw []]::uS 3 ([tI a]::uS 110 [])),nS 2 ((some ⟨cw,b,[]⟩)::nS 114 [])⟩
def zxh:KX R:=(zj 0 (aU z91 (qU R) kk (sub [1,1,1,1,1] (cd Tryz.f60)) (aS z91 Tryz.f60.results.toList none K)))
def TL(a b:Int)(c:au):Option R:=aB (ev z91 (qU R) kk (sub [1,1,1,1,1,0,1,0,0] (cd Tryz.f60))) [1,5,7] [1,2,3,4] k ⟨uS 1 ([.ptr 2 cw []]::uS 3 ([tI a]::uS 1 ([tI b]::uS 108 []))),nS 2 ((some ⟨cw,c,[]⟩)::nS 114 [])⟩ J
def zes(a b c:Int)(d:au):State:=⟨uS 1 ([.ptr 2 cw []]::[tI a]::[tI b]::[tI c]::uS 111 []),nS 2 ((some ⟨cw,d,[]⟩)::nS 114 [])⟩
def zet(a:au):State:=⟨uS 1 ([.ptr 2 cw []]::uS 114 []),nS 2 ((some ⟨cw,a,[]⟩)::nS 114 [])⟩
def zxi:KX R:=(zj 2 (aU z91 (qU R) kk (sub [1,1,1,1,1,1] (cd Tryz.f60)) (aS z91 Tryz.f60.results.toList none K)))
theorem ak4(a b:Int)(c:au):TK R kk (k+1) J a b c=
 Qd a b c (fun a0 a1 a2 a3 a4=>J .ret (zeq a0 a1 a2 a3 a4)) (TK R kk k J) (fun a0 a1=>J (.exit 0) (zer a0 a1)):=by kernel_rfl
theorem aet(a b c d:Int)(e:au):zxh R kk K .ret (zeq a b c d e)=
 zxj a b c d e (fun a0 a1 a2=>K [tI a0,tI a1,tI a2] none):=by kernel_rfl
theorem aeu(a:Int)(b:au):zxh R kk K (.exit 0) (zer a b)=
 TN a b (TL R kk kk (zxi R kk K)):=by kernel_rfl
theorem ak5(a b:Int)(c:au):TL R kk (k+1) J a b c=
 Qe a b c (fun a0 a1 a2 a3=>J .ret (zes a0 a1 a2 a3)) (TL R kk k J) (fun a0=>J (.exit 2) (zet a0)):=by kernel_rfl
theorem aev(a b c:Int)(d:au):zxi R kk K .ret (zes a b c d)=
 zxk a b c d (fun a0 a1 a2=>K [tI a0,tI a1,tI a2] none):=by kernel_rfl
theorem aew(a:au):zxi R kk K (.exit 2) (zet a)=
 TO a (fun a0 a1 a2=>K [tI a0,tI a1,tI a2] none):=by kernel_rfl
theorem ah0{kk:Nat}(hF:kk=ai)(t5 t6:Int)(cZ:au):TK R kk k J t5 t6 cZ=(Fg k t5 t6 cZ).bind fun e=>(Sum.elim (fun(we:(Int×Int×Int×Int×au))=>J .ret (zeq we.1 we.2.1 we.2.2.1 we.2.2.2.1 we.2.2.2.2)) (fun(we:(Int×au))=>J (.exit 0) (zer we.1 we.2)) e):=by
 induction k generalizing t5 t6 cZ with
 |zero=>rfl
 |succ k ih=>
  rw[ak4]
  simp only[Fg,Qd,ih,aD]
theorem ah1{kk:Nat}(hF:kk=ai)(t5 t7:Int)(cZ:au):TL R kk k J t5 t7 cZ=(Fh k t5 t7 cZ).bind fun e=>(Sum.elim (fun(we:(Int×Int×Int×au))=>J .ret (zes we.1 we.2.1 we.2.2.1 we.2.2.2)) (fun(we:au)=>J (.exit 2) (zet we)) e):=by
 induction k generalizing t5 t7 cZ with
 |zero=>rfl
 |succ k ih=>
  rw[ak5]
  simp only[Fh,Qe,ih,aD]
def IJ:ah:=qU.add 60 [cw] (cO cw sP (fun _ r K=>K [tI r.1,tI r.2.1,tI r.2.2] none))
theorem o20:aP Tryz.prog IJ:=cP z91 Tryz.f60 (fun R kk x0 K=>TM x0 (fun a0 a1 a2=>K [tI a0,tI a1,tI a2] none) (TK R kk kk (zxh R kk K))) o19 (ek _ _ _ _) Tryz.func60 (by kernel_rfl) rfl (fun _ _ _ _ _ _ h=>h _ _) (fun _ _ _ _=>by kernel_rfl) fun R kk e x0 K=>by
 simp only[sP,TM,zxj,TN,zxk,TO,ah0 (hF:=e),ah1 (hF:=e),aet,aeu,aev,aew,aD,<-e]
def Ig:Env:=e0 [(.int .u8)]
def wv:ah:=IJ.add 208 [(.int .u8)] (cO (.int .u8) Ie (fun _ r K=>K [tB r] none))
theorem o21:aP Tryz.prog wv:=cP Ig Tryz.f208 (fun R kk x0 K=>XU x0 (fun a0=>K [tB a0] none)) o20 (ek _ _ _ _) Tryz.func208 (by kernel_rfl) rfl (fun _ _ _ _ _ _ h=>h _ _) (fun _ _ _ _=>by kernel_rfl) fun R kk e x0 K=>by
 simp only[Ie,XU,aD]
def pu:Env:=b9.env (fun i=>bif Nat.beq i 2 then [0,3] else []) (fun i=>bif Nat.beq i 2 then [2] else []) [] [.str]
def XR(a:ByteArray)(b:Int):Option R:=aB (ev pu (wv R) kk (sub [1,0,1,0,0] (cd Tryz.f162))) [0,3] [2] k ⟨[tS a]::uS 2 ([tI b]::uS 11 []),nS 16 []⟩ J
def zpt(a:Bool):State:=⟨uS 2 ([tB a]::uS 12 []),nS 16 []⟩
def zpu:State:=⟨uS 15 [],nS 16 []⟩
def D9:KX R:=(zj 0 (aU pu (wv R) kk (sub [1,1] (cd Tryz.f162)) (aS pu Tryz.f162.results.toList none K)))
theorem aoa(a:ByteArray)(b:Int):XR R kk (k+1) J a b=
 XT a b (fun a0=>J .ret (zpt a0)) (XR R kk k J) (J (.exit 0) (zpu)):=by kernel_rfl
theorem ai2(a:Bool):D9 R kk K .ret (zpt a)=
 Ea a (fun a0=>K [tB a0] none):=by kernel_rfl
theorem ai3:D9 R kk K (.exit 0) (zpu)=
 z160 (fun a0=>K [tB a0] none):=by kernel_rfl
theorem al3{kk:Nat}(hF:kk=ai)(iY:ByteArray)(t3:Int):XR R kk k J iY t3=(Hf k iY t3).bind fun e=>(Sum.elim (fun(we:Bool)=>J .ret (zpt we)) (fun(we:Unit)=>J (.exit 0) (zpu)) e):=by
 induction k generalizing iY t3 with
 |zero=>rfl
 |succ k ih=>
  rw[aoa]
  simp only[Hf,XT,ih,aD]
def IK:ah:=wv.add 162 [.str] (cO .str FX (fun _ r K=>K [tB r] none))
theorem o22:aP Tryz.prog IK:=cP pu Tryz.f162 (fun R kk x0 K=>XS x0 (XR R kk kk (D9 R kk K))) o21 (ek _ _ _ _) Tryz.func162 (by kernel_rfl) rfl (fun _ _ _ _ _ _ h=>h _ _) (fun _ _ _ _=>by kernel_rfl) fun R kk e x0 K=>by
 simp only[FX,XS,Ea,z160,al3 (hF:=e),ai2,ai3,aD,<-e]
def am5:Env:=e0 [.str]
def IL:ah:=IK.add 112 [.str] (cO .str sH (fun _ r K=>K [tB r] none))
theorem o23:aP Tryz.prog IL:=cP am5 Tryz.f112 (fun R kk x0 K=>Td x0 (fun a0=>K [tB a0] none)) o22 (ek _ _ _ _) Tryz.func112 (by kernel_rfl) rfl (fun _ _ _ _ _ _ h=>h _ _) (fun _ _ _ _=>by kernel_rfl) fun R kk e x0 K=>by
 simp only[sH,Td,aD]
def ana:Env:=e0 [.str,(.int .i64)]
def ww:ah:=IL.add 82 [.str,(.int .i64)] (dp .str (.int .i64) qI (fun _ r K=>K [tB r] none))
theorem o24:aP Tryz.prog ww:=dx ana Tryz.f82 (fun R kk x0 x1 K=>TJ x0 x1 (fun a0=>K [tB a0] none)) o23 (ek _ _ _ _) Tryz.func82 (by kernel_rfl) rfl (fun _ _ _ _ _ _ h=>h _ _) (fun _ _ _ _ _=>by kernel_rfl) fun R kk e x0 x1 K=>by
 simp only[qI,TJ,aD]
def pA:Env:=b9.env (fun i=>bif Nat.beq i 5 then [0,4,5] else []) (fun i=>bif Nat.beq i 5 then [4] else []) [] [.str]
def XV(a:ByteArray)(b c:Int):Option R:=aB (ev pA (ww R) kk (sub [1,1,1,0,1,0,0] (cd Tryz.f113))) [0,4,5] [4] k ⟨[tS a]::uS 3 ([tI b]::[tI c]::uS 28 []),nS 35 []⟩ J
def zpv(a:Int):State:=⟨uS 4 ([tI a]::uS 29 []),nS 35 []⟩
def O5:KX R:=(zj 0 (aU pA (ww R) kk (sub [1,1,1,1] (cd Tryz.f113)) (aS pA Tryz.f113.results.toList none K)))
theorem aob(a:ByteArray)(b c:Int):XV R kk (k+1) J a b c=
 XX a b c (XV R kk k J) (fun a0=>J (.exit 0) (zpv a0)):=by kernel_rfl
theorem ai4(a:Int):O5 R kk K (.exit 0) (zpv a)=
 Eb a (fun a0 a1=>K [tI a0,tB a1] none):=by kernel_rfl
theorem al4{kk:Nat}(hF:kk=ai)(iY:ByteArray)(t4 t5:Int):XV R kk k J iY t4 t5=(Hg k iY t4 t5).bind fun e=>J (.exit 0) (zpv e):=by
 induction k generalizing iY t4 t5 with
 |zero=>rfl
 |succ k ih=>
  rw[aob]
  simp only[Hg,XX,ih,aD]
def IM:ah:=ww.add 113 [.str] (cO .str Ih (fun _ r K=>K [tI r.1,tB r.2] none))
theorem o25:aP Tryz.prog IM:=cP pA Tryz.f113 (fun R kk x0 K=>XW x0 (fun a0 a1=>K [tI a0,tB a1] none) (XV R kk kk (O5 R kk K))) o24 (ek _ _ _ _) Tryz.func113 (by kernel_rfl) rfl (fun _ _ _ _ _ _ h=>h _ _) (fun _ _ _ _=>by kernel_rfl) fun R kk e x0 K=>by
 simp only[Ih,XW,Eb,al4 (hF:=e),ai4,aD,<-e]
def IC:Env:=e0 [.str]
def wy:ah:=IM.add 83 [.str] (cO .str FZ (fun _ r K=>K [tB r] none))
theorem o26:aP Tryz.prog wy:=cP IC Tryz.f83 (fun R kk x0 K=>Yl x0 (fun a0=>K [tB a0] none)) o25 (ek _ _ _ _) Tryz.func83 (by kernel_rfl) rfl (fun _ _ _ _ _ _ h=>h _ _) (fun _ _ _ _=>by kernel_rfl) fun R kk e x0 K=>by
 simp only[FZ,Yl,aD]
def Wk:Env:=b9.env (fun i=>bif Nat.beq i 2 then [0,1,2,7] else []) (fun i=>bif Nat.beq i 2 then [6] else []) [] [(.sl 109 (.pair .str (.pair .str .unit))),(.int .i64),.str]
def Tl(a:aO)(b:Int)(c:ByteArray)(d:Int):Option R:=aB (ev Wk (wy R) kk (sub [1,0,1,0,0] (cd Tryz.f114))) [0,1,2,7] [6] k ⟨[.ak (.sl 109 (.pair .str (.pair .str .unit))) a []]::[tI b]::[tS c]::uS 4 ([tI d]::uS 13 []),nS 22 []⟩ J
def zeb(a:Int):State:=⟨uS 6 ([tI a]::uS 14 []),nS 22 []⟩
def zec:State:=⟨uS 21 [],nS 22 []⟩
def zwm:KX R:=(zj 0 (aU Wk (wy R) kk (sub [1,1] (cd Tryz.f114)) (aS Wk Tryz.f114.results.toList none K)))
theorem akV(a:aO)(b:Int)(c:ByteArray)(d:Int):Tl R kk (k+1) J a b c d=
 P3 a b c d (fun a0=>J .ret (zeb a0)) (Tl R kk k J) (J (.exit 0) (zec)):=by kernel_rfl
theorem ad7(a:Int):zwm R kk K .ret (zeb a)=
 zwn a (fun a0=>K [tI a0] none):=by kernel_rfl
theorem ad8:zwm R kk K (.exit 0) (zec)=
 zwo (fun a0=>K [tI a0] none):=by kernel_rfl
theorem ahH{kk:Nat}(hF:kk=ai)(gl:aO)(ml:Int)(oj:ByteArray)(t7:Int):Tl R kk k J gl ml oj t7=(Fa k gl ml oj t7).bind fun e=>(Sum.elim (fun(we:Int)=>J .ret (zeb we)) (fun(we:Unit)=>J (.exit 0) (zec)) e):=by
 induction k generalizing gl ml oj t7 with
 |zero=>rfl
 |succ k ih=>
  rw[akV]
  simp only[Fa,P3,ih,aD]
def IP:ah:=wy.add 114 [(.sl 109 (.pair .str (.pair .str .unit))),(.int .i64),.str] (kH (.sl 109 (.pair .str (.pair .str .unit))) (.int .i64) .str qH (fun _ r K=>K [tI r] none))
theorem o27:aP Tryz.prog IP:=kW Wk Tryz.f114 (fun R kk x0 x1 x2 K=>Tm x0 x1 x2 (Tl R kk kk (zwm R kk K))) o26 (ek _ _ _ _) Tryz.func114 (by kernel_rfl) rfl (fun _ _ _ _ _ _ h=>h _ _) (fun _ _ _ _ _ _=>by kernel_rfl) fun R kk e x0 x1 x2 K=>by
 simp only[qH,Tm,zwn,zwo,ahH (hF:=e),ad7,ad8,aD,<-e]
def am6:Env:=e0 [(.sl 109 (.pair .str (.pair .str .unit))),.str]
def wA:ah:=IP.add 84 [(.sl 109 (.pair .str (.pair .str .unit))),.str] (dp (.sl 109 (.pair .str (.pair .str .unit))) .str sI (fun _ r K=>K [tS r.1,tB r.2] none))
theorem o28:aP Tryz.prog wA:=dx am6 Tryz.f84 (fun R kk x0 x1 K=>Te x0 x1 (fun a0 a1=>K [tS a0,tB a1] none)) o27 (ek _ _ _ _) Tryz.func84 (by kernel_rfl) rfl (fun _ _ _ _ _ _ h=>h _ _) (fun _ _ _ _ _=>by kernel_rfl) fun R kk e x0 x1 K=>by
 simp only[sI,Te,aD]
def pD:Env:=b9.env (fun i=>bif Nat.beq i 4 then [0,1,5] else []) (fun i=>bif Nat.beq i 4 then [4] else []) [] [(.int .i64),(.int .i64)]
def X3(a b c:Int):Option R:=aB (ev pD (wA R) kk (sub [1,1,0,1,0,0] (cd Tryz.f163))) [0,1,5] [4] k ⟨[tI a]::[tI b]::uS 3 ([tI c]::uS 29 []),nS 36 []⟩ J
def zpy(a:Bool):State:=⟨uS 4 ([tB a]::uS 30 []),nS 36 []⟩
def zpz:State:=⟨uS 35 [],nS 36 []⟩
def Ee:KX R:=(zj 0 (aU pD (wA R) kk (sub [1,1,1] (cd Tryz.f163)) (aS pD Tryz.f163.results.toList none K)))
theorem aod(a b c:Int):X3 R kk (k+1) J a b c=
 z167 a b c (fun a0=>J .ret (zpy a0)) (X3 R kk k J) (J (.exit 0) (zpz)):=by kernel_rfl
theorem ai7(a:Bool):Ee R kk K .ret (zpy a)=
 z168 a (fun a0=>K [tB a0] none):=by kernel_rfl
theorem ai8:Ee R kk K (.exit 0) (zpz)=
 Ef (fun a0=>K [tB a0] none):=by kernel_rfl
theorem al6{kk:Nat}(hF:kk=ai)(lZ tL t5:Int):X3 R kk k J lZ tL t5=(X4 k lZ tL t5).bind fun e=>(Sum.elim (fun(we:Bool)=>J .ret (zpy we)) (fun(we:Unit)=>J (.exit 0) (zpz)) e):=by
 induction k generalizing lZ tL t5 with
 |zero=>rfl
 |succ k ih=>
  rw[aod]
  simp only[X4,z167,ih,aD]
def IQ:ah:=wA.add 163 [(.int .i64),(.int .i64)] (dp (.int .i64) (.int .i64) FY (fun _ r K=>K [tB r] none))
theorem o29:aP Tryz.prog IQ:=dx pD Tryz.f163 (fun R kk x0 x1 K=>X5 x0 x1 (fun a0=>K [tB a0] none) (X3 R kk kk (Ee R kk K))) o28 (ek _ _ _ _) Tryz.func163 (by kernel_rfl) rfl (fun _ _ _ _ _ _ h=>h _ _) (fun _ _ _ _ _=>by kernel_rfl) fun R kk e x0 x1 K=>by
 simp only[FY,X5,z168,Ef,al6 (hF:=e),ai7,ai8,aD,<-e]
def Iu:Env:=e0 [cK,cK]
def wC:ah:=IQ.add 115 [cK,cK] (dp cK cK vg (fun _ r K=>K [tB r] none))
theorem o30:aP Tryz.prog wC:=dx Iu Tryz.f115 (fun R kk x0 x1 K=>Hi x0 x1 (fun a0=>K [tB a0] none)) o29 (ek _ _ _ _) Tryz.func115 (by kernel_rfl) rfl (fun _ _ _ _ _ _ h=>h _ _) (fun _ _ _ _ _=>by kernel_rfl) fun R kk e x0 x1 K=>by
 simp only[vg,Hi,aD]
def Wi:Env:=b9.env (fun i=>bif Nat.beq i 4 then [0,4] else []) (fun i=>bif Nat.beq i 4 then [2,3] else []) [] [(.sl 109 (.pair .str (.pair .str .unit)))]
def Tf(a:aO)(b:Int):Option R:=aB (ev Wi (wC R) kk (sub [1,1,0,1,0,0] (cd Tryz.f116))) [0,4] [2,3] k ⟨[.ak (.sl 109 (.pair .str (.pair .str .unit))) a []]::uS 3 ([tI b]::uS 19 []),nS 25 []⟩ J
def ze8(a b:Int):State:=⟨uS 2 ([tI a]::[tI b]::uS 20 []),nS 25 []⟩
def ze9:State:=⟨uS 24 [],nS 25 []⟩
def zwg:KX R:=(zj 0 (aU Wi (wC R) kk (sub [1,1,1] (cd Tryz.f116)) (aS Wi Tryz.f116.results.toList none K)))
theorem akT(a:aO)(b:Int):Tf R kk (k+1) J a b=
 P2 a b (fun a0 a1=>J .ret (ze8 a0 a1)) (Tf R kk k J) (J (.exit 0) (ze9)):=by kernel_rfl
theorem ad4(a b:Int):zwg R kk K .ret (ze8 a b)=
 zwh a b (fun a0 a1=>K [tI a0,tI a1] none):=by kernel_rfl
theorem ad5:zwg R kk K (.exit 0) (ze9)=
 zwi (fun a0 a1=>K [tI a0,tI a1] none):=by kernel_rfl
theorem ahF{kk:Nat}(hF:kk=ai)(gl:aO)(t4:Int):Tf R kk k J gl t4=(E9 k gl t4).bind fun e=>(Sum.elim (fun(we:(Int×Int))=>J .ret (ze8 we.1 we.2)) (fun(we:Unit)=>J (.exit 0) (ze9)) e):=by
 induction k generalizing gl t4 with
 |zero=>rfl
 |succ k ih=>
  rw[akT]
  simp only[E9,P2,ih,aD]
def cY:ah:=wC.add 116 [(.sl 109 (.pair .str (.pair .str .unit)))] (cO (.sl 109 (.pair .str (.pair .str .unit))) sJ (fun _ r K=>K [tI r.1,tI r.2] none))
theorem o31:aP Tryz.prog cY:=cP Wi Tryz.f116 (fun R kk x0 K=>Th x0 (fun a0 a1=>K [tI a0,tI a1] none) (Tf R kk kk (zwg R kk K))) o30 (ek _ _ _ _) Tryz.func116 (by kernel_rfl) rfl (fun _ _ _ _ _ _ h=>h _ _) (fun _ _ _ _=>by kernel_rfl) fun R kk e x0 K=>by
 simp only[sJ,Th,zwh,zwi,ahF (hF:=e),ad4,ad5,aD,<-e]
def zu:Env:={b9.env (fun i=>bif Nat.beq i 27 then [3,4,5,7,8,13] else []) (fun i=>bif Nat.beq i 27 then [6] else []) [] [cA,aK,aK] with join:=fun i=>bif Nat.beq i 2 then some [3,4,5,23] else bif Nat.beq i 3 then some [3,4,5] else bif Nat.beq i 6 then some [3,4,5,7,8,48] else bif Nat.beq i 7 then some [3,4,5,7,8] else bif Nat.beq i 8 then some [3,4,5,7,8,65] else bif Nat.beq i 9 then some [3,4,5,7,8] else bif Nat.beq i 10 then some [3,4,5,7,8,84] else bif Nat.beq i 11 then some [3,4,5,7,8] else bif Nat.beq i 35 then some [] else bif Nat.beq i 21 then some [140] else bif Nat.beq i 25 then some [3,4,5,7,8,156] else bif Nat.beq i 26 then some [3,4,5,7,8] else bif Nat.beq i 29 then some [3,4,5,7,8,13] else bif Nat.beq i 32 then some [3,4,5,7,8,13] else bif Nat.beq i 28 then some [3,4,5,7,8,13] else none}
def NP(a:Bool)(b:aF)(c d:af):Option R:=ev zu (cY R) kk (sub [1,0,1] (cd Tryz.f85)) ⟨uS 3 ([.ptr 4 cA []]::[.ptr 5 aK []]::[.ptr 6 aK []]::uS 17 ([tB a]::uS 170 [])),nS 4 ((some ⟨cA,b,[]⟩)::(some ⟨aK,c,[]⟩)::(some ⟨aK,d,[]⟩)::nS 188 [])⟩ (aU zu (cY R) kk (sub [1,1] (cd Tryz.f85)) (aS zu Tryz.f85.results.toList none K))
def NQ(a:aF)(b c:af):Option R:=ev zu (cY R) kk (sub [1,1] (cd Tryz.f85)) ⟨uS 3 ([.ptr 4 cA []]::[.ptr 5 aK []]::[.ptr 6 aK []]::uS 188 []),nS 4 ((some ⟨cA,a,[]⟩)::(some ⟨aK,b,[]⟩)::(some ⟨aK,c,[]⟩)::nS 188 [])⟩ (aS zu Tryz.f85.results.toList none K)
def NR(a b:Int)(c:Bool)(d:aF)(e f:af):Option R:=ev zu (cY R) kk (sub [1,1,1,1,0,1] (cd Tryz.f85)) ⟨uS 3 ([.ptr 4 cA []]::[.ptr 5 aK []]::[.ptr 6 aK []]::uS 1 ([tI a]::[tI b]::uS 39 ([tB c]::uS 145 []))),nS 4 ((some ⟨cA,d,[]⟩)::(some ⟨aK,e,[]⟩)::(some ⟨aK,f,[]⟩)::nS 188 [])⟩ (aU zu (cY R) kk (sub [1,1,1,1,1] (cd Tryz.f85)) (aS zu Tryz.f85.results.toList none K))
def NS(a b:Int)(c:aF)(d e:af):Option R:=ev zu (cY R) kk (sub [1,1,1,1,1] (cd Tryz.f85)) ⟨uS 3 ([.ptr 4 cA []]::[.ptr 5 aK []]::[.ptr 6 aK []]::uS 1 ([tI a]::[tI b]::uS 185 [])),nS 4 ((some ⟨cA,c,[]⟩)::(some ⟨aK,d,[]⟩)::(some ⟨aK,e,[]⟩)::nS 188 [])⟩ (aS zu Tryz.f85.results.toList none K)
def NT(a b:Int)(c:Bool)(d:aF)(e f:af):Option R:=ev zu (cY R) kk (sub [1,1,1,1,1,0,1] (cd Tryz.f85)) ⟨uS 3 ([.ptr 4 cA []]::[.ptr 5 aK []]::[.ptr 6 aK []]::uS 1 ([tI a]::[tI b]::uS 56 ([tB c]::uS 128 []))),nS 4 ((some ⟨cA,d,[]⟩)::(some ⟨aK,e,[]⟩)::(some ⟨aK,f,[]⟩)::nS 188 [])⟩ (aU zu (cY R) kk (sub [1,1,1,1,1,1] (cd Tryz.f85)) (aS zu Tryz.f85.results.toList none K))
def NU(a b:Int)(c:aF)(d e:af):Option R:=ev zu (cY R) kk (sub [1,1,1,1,1,1] (cd Tryz.f85)) ⟨uS 3 ([.ptr 4 cA []]::[.ptr 5 aK []]::[.ptr 6 aK []]::uS 1 ([tI a]::[tI b]::uS 185 [])),nS 4 ((some ⟨cA,c,[]⟩)::(some ⟨aK,d,[]⟩)::(some ⟨aK,e,[]⟩)::nS 188 [])⟩ (aS zu Tryz.f85.results.toList none K)
def NV(a b:Int)(c:Bool)(d:aF)(e f:af):Option R:=ev zu (cY R) kk (sub [1,1,1,1,1,1,0,1] (cd Tryz.f85)) ⟨uS 3 ([.ptr 4 cA []]::[.ptr 5 aK []]::[.ptr 6 aK []]::uS 1 ([tI a]::[tI b]::uS 75 ([tB c]::uS 109 []))),nS 4 ((some ⟨cA,d,[]⟩)::(some ⟨aK,e,[]⟩)::(some ⟨aK,f,[]⟩)::nS 188 [])⟩ (aU zu (cY R) kk (sub [1,1,1,1,1,1,1] (cd Tryz.f85)) (aS zu Tryz.f85.results.toList none K))
def NW(a b:Int)(c:aF)(d e:af):Option R:=ev zu (cY R) kk (sub [1,1,1,1,1,1,1] (cd Tryz.f85)) ⟨uS 3 ([.ptr 4 cA []]::[.ptr 5 aK []]::[.ptr 6 aK []]::uS 1 ([tI a]::[tI b]::uS 185 [])),nS 4 ((some ⟨cA,c,[]⟩)::(some ⟨aK,d,[]⟩)::(some ⟨aK,e,[]⟩)::nS 188 [])⟩ (aS zu Tryz.f85.results.toList none K)
def Tn:Option R:=ev zu (cY R) kk (sub [1,1,1,1,1,1,1,1] (cd Tryz.f85)) ⟨uS 194 [],nS 195 []⟩ (aS zu Tryz.f85.results.toList none K)
def NY(a:Bool):Option R:=ev zu (cY R) kk (sub [1,1,1,1,1,1,1,0,1,0,1,1,1,1,1,0,1,1,1] (cd Tryz.f85)) ⟨uS 140 ([tB a]::uS 53 []),nS 195 []⟩ (zj 0 (aU zu (cY R) kk (sub [1,1,1,1,1,1,1,1] (cd Tryz.f85)) (aS zu Tryz.f85.results.toList none K)))
def MC(a b:Int)(c:Bool)(d:aF)(e f:af):Option R:=ev zu (cY R) kk (sub [1,1,1,1,1,1,1,0,1,0,1,1,1,1,1,1,1,0,0,1,1] (cd Tryz.f85)) ⟨uS 3 ([.ptr 4 cA []]::[.ptr 5 aK []]::[.ptr 6 aK []]::uS 1 ([tI a]::[tI b]::uS 147 ([tB c]::uS 37 []))),nS 4 ((some ⟨cA,d,[]⟩)::(some ⟨aK,e,[]⟩)::(some ⟨aK,f,[]⟩)::nS 188 [])⟩ (aU zu (cY R) kk (sub [1,1,1,1,1,1,1,0,1,0,1,1,1,1,1,1,1,0,1] (cd Tryz.f85)) (zj 0 (aU zu (cY R) kk (sub [1,1,1,1,1,1,1,1] (cd Tryz.f85)) (aS zu Tryz.f85.results.toList none K))))
def MD(a b:Int)(c:aF)(d e:af):Option R:=ev zu (cY R) kk (sub [1,1,1,1,1,1,1,0,1,0,1,1,1,1,1,1,1,0,1] (cd Tryz.f85)) ⟨uS 3 ([.ptr 4 cA []]::[.ptr 5 aK []]::[.ptr 6 aK []]::uS 1 ([tI a]::[tI b]::uS 185 [])),nS 4 ((some ⟨cA,c,[]⟩)::(some ⟨aK,d,[]⟩)::(some ⟨aK,e,[]⟩)::nS 188 [])⟩ (zj 0 (aU zu (cY R) kk (sub [1,1,1,1,1,1,1,1] (cd Tryz.f85)) (aS zu Tryz.f85.results.toList none K)))
def ME(a b c:Int)(d:aF)(e f:af):Option R:=ev zu (cY R) kk (sub [1,1,1,1,1,1,1,0,1,0,1,1,1,1,1,1,1,0,1,1,0,0,1] (cd Tryz.f85)) ⟨uS 3 ([.ptr 4 cA []]::[.ptr 5 aK []]::[.ptr 6 aK []]::uS 1 ([tI a]::[tI b]::uS 4 ([tI c]::uS 180 []))),nS 4 ((some ⟨cA,d,[]⟩)::(some ⟨aK,e,[]⟩)::(some ⟨aK,f,[]⟩)::nS 188 [])⟩ (nk (ev zu (cY R) kk (sub [1,1,1,1,1,1,1,0,1,0,1,1,1,1,1,1,1,0,1,1,0,0] (cd Tryz.f85))) [3,4,5,7,8,13] [6] k J)
def MF(a b c:Int)(d:aF)(e f:af):Option R:=ev zu (cY R) kk (sub [1,1,1,1,1,1,1,0,1,0,1,1,1,1,1,1,1,0,1,1,0,0,1,0,0,1] (cd Tryz.f85)) ⟨uS 3 ([.ptr 4 cA []]::[.ptr 5 aK []]::[.ptr 6 aK []]::uS 1 ([tI a]::[tI b]::uS 4 ([tI c]::uS 180 []))),nS 4 ((some ⟨cA,d,[]⟩)::(some ⟨aK,e,[]⟩)::(some ⟨aK,f,[]⟩)::nS 188 [])⟩ (zj 2 (aU zu (cY R) kk (sub [1,1,1,1,1,1,1,0,1,0,1,1,1,1,1,1,1,0,1,1,0,0,1,1] (cd Tryz.f85)) (nk (ev zu (cY R) kk (sub [1,1,1,1,1,1,1,0,1,0,1,1,1,1,1,1,1,0,1,1,0,0] (cd Tryz.f85))) [3,4,5,7,8,13] [6] k J)))
def MG(a b c:Int)(d:aF)(e f:af):Option R:=ev zu (cY R) kk (sub [1,1,1,1,1,1,1,0,1,0,1,1,1,1,1,1,1,0,1,1,0,0,1,1] (cd Tryz.f85)) ⟨uS 3 ([.ptr 4 cA []]::[.ptr 5 aK []]::[.ptr 6 aK []]::uS 1 ([tI a]::[tI b]::uS 4 ([tI c]::uS 180 []))),nS 4 ((some ⟨cA,d,[]⟩)::(some ⟨aK,e,[]⟩)::(some ⟨aK,f,[]⟩)::nS 188 [])⟩ (nk (ev zu (cY R) kk (sub [1,1,1,1,1,1,1,0,1,0,1,1,1,1,1,1,1,0,1,1,0,0] (cd Tryz.f85))) [3,4,5,7,8,13] [6] k J)
def Tp(a b c:Int)(d:aF)(e f:af):Option R:=aB (ev zu (cY R) kk (sub [1,1,1,1,1,1,1,0,1,0,1,1,1,1,1,1,1,0,1,1,0,0] (cd Tryz.f85))) [3,4,5,7,8,13] [6] k ⟨uS 3 ([.ptr 4 cA []]::[.ptr 5 aK []]::[.ptr 6 aK []]::uS 1 ([tI a]::[tI b]::uS 4 ([tI c]::uS 180 []))),nS 4 ((some ⟨cA,d,[]⟩)::(some ⟨aK,e,[]⟩)::(some ⟨aK,f,[]⟩)::nS 188 [])⟩ J
def zed:State:=⟨uS 194 [],nS 195 []⟩
def SC(a:Int):State:=⟨uS 6 ([tI a]::uS 187 []),nS 195 []⟩
def zwp:KX R:=(zj 1 (zj 0 (aU zu (cY R) kk (sub [1,1,1,1,1,1,1,1] (cd Tryz.f85)) (aS zu Tryz.f85.results.toList none K))))
theorem ahI(a:Bool)(b:aF)(c d:af):NP R kk K a b c d=
 zwu a b c d (fun a0=>K [tI a0] none) (fun a0 a1 a2=>cI kk fun _=>NQ R kk K a0 a1 a2):=by kernel_rfl
theorem ahJ(a:aF)(b c:af):NQ R kk K a b c=
 GK a b c (fun a0 a1 a2 a3 a4 a5=>cI kk fun _=>NR R kk K a0 a1 a2 a3 a4 a5):=by kernel_rfl
theorem ahK(a b:Int)(c:Bool)(d:aF)(e f:af):NR R kk K a b c d e f=
 zwv a b c d e f (fun a0=>K [tI a0] none) (fun a0 a1 a2 a3 a4=>cI kk fun _=>NS R kk K a0 a1 a2 a3 a4):=by kernel_rfl
theorem ahL(a b:Int)(c:aF)(d e:af):NS R kk K a b c d e=
 GL a b c d e (fun a0 a1 a2 a3 a4 a5=>cI kk fun _=>NT R kk K a0 a1 a2 a3 a4 a5):=by kernel_rfl
theorem ahM(a b:Int)(c:Bool)(d:aF)(e f:af):NT R kk K a b c d e f=
 zww a b c d e f (fun a0=>K [tI a0] none) (fun a0 a1 a2 a3 a4=>cI kk fun _=>NU R kk K a0 a1 a2 a3 a4):=by kernel_rfl
theorem ahN(a b:Int)(c:aF)(d e:af):NU R kk K a b c d e=
 GM a b c d e (fun a0 a1 a2 a3 a4 a5=>cI kk fun _=>NV R kk K a0 a1 a2 a3 a4 a5):=by kernel_rfl
theorem ahO(a b:Int)(c:Bool)(d:aF)(e f:af):NV R kk K a b c d e f=
 zwx a b c d e f (fun a0=>K [tI a0] none) (fun a0 a1 a2 a3 a4=>cI kk fun _=>NW R kk K a0 a1 a2 a3 a4):=by kernel_rfl
theorem ahP(a b:Int)(c:aF)(d e:af):NW R kk K a b c d e=
 GN a b c d e (fun a0=>K [tI a0] none) (cI kk fun _=>Tn R kk K) (fun a0=>cI kk fun _=>NY R kk K a0) (fun a0 a1 a2 a3 a4 a5=>cI kk fun _=>MC R kk K a0 a1 a2 a3 a4 a5):=by kernel_rfl
theorem ahQ:Tn R kk K=
 zwy (fun a0=>K [tI a0] none):=by kernel_rfl
theorem ahR(a:Bool):NY R kk K a=
 zp5 a (fun a0=>K [tI a0] none) (cI kk fun _=>Tn R kk K):=by kernel_rfl
theorem ad9(a b:Int)(c:Bool)(d:aF)(e f:af):MC R kk K a b c d e f=
 zp6 a b c d e f (fun a0=>K [tI a0] none) (fun a0 a1 a2 a3 a4=>cI kk fun _=>MD R kk K a0 a1 a2 a3 a4):=by kernel_rfl
theorem aea(a b:Int)(c:aF)(d e:af):MD R kk K a b c d e=
 SW a b c d e (Tp R kk kk (zwp R kk K)):=by kernel_rfl
theorem akW(a b c:Int)(d:aF)(e f:af):Tp R kk (k+1) J a b c d e f=
 PR a b c d e f (fun a0 a1 a2 a3 a4 a5=>cI kk fun _=>ME R kk k J a0 a1 a2 a3 a4 a5) (J (.exit 1) (zed)):=by kernel_rfl
theorem aeb(a b c:Int)(d:aF)(e f:af):ME R kk k J a b c d e f=
 SX a b c d e f (fun a0=>J .ret (SC a0)) (fun a0 a1 a2 a3 a4 a5=>cI kk fun _=>MF R kk k J a0 a1 a2 a3 a4 a5):=by kernel_rfl
theorem aee:zwp R kk K (.exit 1) (zed)=
 zp7 (cI kk fun _=>Tn R kk K):=by kernel_rfl
theorem aef(a:Int):zwp R kk K .ret (SC a)=
 zp8 a (fun a0=>K [tI a0] none):=by kernel_rfl
theorem aec(a b c:Int)(d:aF)(e f:af):MF R kk k J a b c d e f=
 SY a b c d e f (fun a0=>J .ret (SC a0)) (fun a0 a1 a2 a3 a4 a5=>cI kk fun _=>MG R kk k J a0 a1 a2 a3 a4 a5):=by kernel_rfl
theorem aed(a b c:Int)(d:aF)(e f:af):MG R kk k J a b c d e f=
 SZ a b c d e f (Tp R kk k J):=by kernel_rfl
theorem ahS{kk:Nat}(hF:kk=ai)(t7 t8 t13:Int)(dH:aF)(cQ du:af):Tp R kk k J t7 t8 t13 dH cQ du=(vD k t7 t8 t13 dH cQ du).bind fun e=>(Sum.elim (fun(we:Unit)=>J (.exit 1) (zed)) (fun(we:Int)=>J .ret (SC we)) e):=by
 induction k generalizing t7 t8 t13 dH cQ du with
 |zero=>rfl
 |succ k ih=>
  rw[akW]
  simp only[vD,PR,SX,SY,SZ,ih,aeb,aec,aed,Pj (hF:=hF),aD]
def IU:ah:=cY.add 85 [cA,aK,aK] (kH cA aK aK sL (fun _ r K=>K [tI r] none))
theorem o32:aP Tryz.prog IU:=kW zu Tryz.f85 (fun R kk x0 x1 x2 K=>GJ x0 x1 x2 (fun a0 a1 a2 a3=>cI kk fun _=>NP R kk K a0 a1 a2 a3)) o31 ((ek _ _ _ _).join _) Tryz.func85 (by kernel_rfl) rfl (fun _ _ _ _ _ _ h=>h _ _) (fun _ _ _ _ _ _=>by kernel_rfl) fun R kk e x0 x1 x2 K=>by
 simp only[sL,abQ,zwu,abR,zwv,abS,zww,abT,zwx,abU,zwy,zp5,zp6,SW,zp7,zp8,ahS (hF:=e),zwq,Tq,Be,P4,zwr,Fb,zws,P5,Tr,zwt,zp4,PQ,ahI,ahJ,ad9,aea,ahK,ahL,ahM,ahN,ahO,ahP,ahQ,ahR,aee,aef,Pj (hF:=e),aD,<-e]
def am9:Env:=e0 [cA,cA]
def lU:ah:=IU.add 86 [cA,cA] (dp cA cA sO (fun _ r K=>K [tB r] none))
theorem o33:aP Tryz.prog lU:=dx am9 Tryz.f86 (fun R kk x0 x1 K=>TI x0 x1 (fun a0=>K [tB a0] none)) o32 (ek _ _ _ _) Tryz.func86 (by kernel_rfl) rfl (fun _ _ _ _ _ _ h=>h _ _) (fun _ _ _ _ _=>by kernel_rfl) fun R kk e x0 x1 K=>by
 simp only[sO,TI,aD]
def vF:Env:=b9.env (fun i=>bif Nat.beq i 8 then [3,4,5,9] else bif Nat.beq i 19 then [3,4,5,13] else bif Nat.beq i 25 then [3,4,5,13,15] else []) (fun i=>bif Nat.beq i 8 then [3,4,5,6,7,8] else bif Nat.beq i 19 then [6,7,8] else bif Nat.beq i 25 then [3,4,5,6,7,8,13] else []) [] [cD,aK,aK]
def Tv(a:Int)(b:ay)(c d:af):Option R:=aB (ev vF (lU R) kk (sub [1,1,1,1,0,1,0,0] (cd Tryz.f61))) [3,4,5,9] [3,4,5,6,7,8] k ⟨uS 3 ([.ptr 4 cD []]::[.ptr 5 aK []]::[.ptr 6 aK []]::uS 3 ([tI a]::uS 104 [])),nS 4 ((some ⟨cD,b,[]⟩)::(some ⟨aK,c,[]⟩)::(some ⟨aK,d,[]⟩)::nS 108 [])⟩ J
def zeg(a b c:Int)(d:ay)(e f:af):State:=⟨uS 3 ([.ptr 4 cD []]::[.ptr 5 aK []]::[.ptr 6 aK []]::[tI a]::[tI b]::[tI c]::uS 105 []),nS 4 ((some ⟨cD,d,[]⟩)::(some ⟨aK,e,[]⟩)::(some ⟨aK,f,[]⟩)::nS 108 [])⟩
def zeh(a:ay)(b c:af):State:=⟨uS 3 ([.ptr 4 cD []]::[.ptr 5 aK []]::[.ptr 6 aK []]::uS 108 []),nS 4 ((some ⟨cD,a,[]⟩)::(some ⟨aK,b,[]⟩)::(some ⟨aK,c,[]⟩)::nS 108 [])⟩
def zx2:KX R:=(zj 0 (aU vF (lU R) kk (sub [1,1,1,1,1] (cd Tryz.f61)) (aS vF Tryz.f61.results.toList none K)))
def Tw(a:Int)(b:ay)(c d:af):Option R:=aB (ev vF (lU R) kk (sub [1,1,1,1,1,1,0,1,0,0] (cd Tryz.f61))) [3,4,5,13] [6,7,8] k ⟨uS 3 ([.ptr 4 cD []]::[.ptr 5 aK []]::[.ptr 6 aK []]::uS 7 ([tI a]::uS 100 [])),nS 4 ((some ⟨cD,b,[]⟩)::(some ⟨aK,c,[]⟩)::(some ⟨aK,d,[]⟩)::nS 108 [])⟩ J
def SD(a b c:Int):State:=⟨uS 6 ([tI a]::[tI b]::[tI c]::uS 105 []),nS 115 []⟩
def zei:State:=⟨uS 114 [],nS 115 []⟩
def zx3:KX R:=(zj 2 (aU vF (lU R) kk (sub [1,1,1,1,1,1,1] (cd Tryz.f61)) (aS vF Tryz.f61.results.toList none K)))
def Tx(a b:Int)(c:ay)(d e:af):Option R:=aB (ev vF (lU R) kk (sub [1,1,1,1,1,1,0,1,0,0,1,0,0,1,1,0,0] (cd Tryz.f61))) [3,4,5,13,15] [3,4,5,6,7,8,13] k ⟨uS 3 ([.ptr 4 cD []]::[.ptr 5 aK []]::[.ptr 6 aK []]::uS 7 ([tI a]::uS 1 ([tI b]::uS 98 []))),nS 4 ((some ⟨cD,c,[]⟩)::(some ⟨aK,d,[]⟩)::(some ⟨aK,e,[]⟩)::nS 108 [])⟩ J
def zej(a b c d:Int)(e:ay)(f g:af):State:=⟨uS 3 ([.ptr 4 cD []]::[.ptr 5 aK []]::[.ptr 6 aK []]::[tI a]::[tI b]::[tI c]::uS 4 ([tI d]::uS 100 [])),nS 4 ((some ⟨cD,e,[]⟩)::(some ⟨aK,f,[]⟩)::(some ⟨aK,g,[]⟩)::nS 108 [])⟩
def zek(a:Int)(b:ay)(c d:af):State:=⟨uS 3 ([.ptr 4 cD []]::[.ptr 5 aK []]::[.ptr 6 aK []]::uS 7 ([tI a]::uS 100 [])),nS 4 ((some ⟨cD,b,[]⟩)::(some ⟨aK,c,[]⟩)::(some ⟨aK,d,[]⟩)::nS 108 [])⟩
def zx4:KX R:=(zj 4 (zj 3 (aU vF (lU R) kk (sub [1,1,1,1,1,1,0,1,0,0,1,1] (cd Tryz.f61)) (nk (ev vF (lU R) kk (sub [1,1,1,1,1,1,0,1,0,0] (cd Tryz.f61))) [3,4,5,13] [6,7,8] k J))))
theorem akY(a:Int)(b:ay)(c d:af):Tv R kk (k+1) J a b c d=
 P7 a b c d (fun a0 a1 a2 a3 a4 a5=>J .ret (zeg a0 a1 a2 a3 a4 a5)) (Tv R kk k J) (fun a0 a1 a2=>J (.exit 0) (zeh a0 a1 a2)):=by kernel_rfl
theorem aei(a b c:Int)(d:ay)(e f:af):zx2 R kk K .ret (zeg a b c d e f)=
 zx5 a b c d e f (fun a0 a1 a2=>K [tI a0,tI a1,tI a2] none):=by kernel_rfl
theorem aej(a:ay)(b c:af):zx2 R kk K (.exit 0) (zeh a b c)=
 TA a b c (fun a0 a1 a2=>K [tI a0,tI a1,tI a2] none) (Tw R kk kk (zx3 R kk K)):=by kernel_rfl
theorem akZ(a:Int)(b:ay)(c d:af):Tw R kk (k+1) J a b c d=
 P8 a b c d (fun a0 a1 a2=>J .ret (SD a0 a1 a2)) (Tx R kk kk (zx4 R kk k J)) (J (.exit 2) (zei)):=by kernel_rfl
theorem aek(a b c:Int):zx3 R kk K .ret (SD a b c)=
 zx6 a b c (fun a0 a1 a2=>K [tI a0,tI a1,tI a2] none):=by kernel_rfl
theorem ael:zx3 R kk K (.exit 2) (zei)=
 zx7 (fun a0 a1 a2=>K [tI a0,tI a1,tI a2] none):=by kernel_rfl
theorem ak0(a b:Int)(c:ay)(d e:af):Tx R kk (k+1) J a b c d e=
 P9 a b c d e (fun a0 a1 a2 a3 a4 a5 a6=>J .ret (zej a0 a1 a2 a3 a4 a5 a6)) (Tx R kk k J) (fun a0 a1 a2 a3=>J (.exit 4) (zek a0 a1 a2 a3)):=by kernel_rfl
theorem aem(a b c d:Int)(e:ay)(f g:af):zx4 R kk k J .ret (zej a b c d e f g)=
 zx8 a b c d e f g (fun a0 a1 a2=>J .ret (SD a0 a1 a2)):=by kernel_rfl
theorem aen(a:Int)(b:ay)(c d:af):zx4 R kk k J (.exit 4) (zek a b c d)=
 TB a b c d (Tw R kk k J):=by kernel_rfl
theorem ahU{kk:Nat}(hF:kk=ai)(t9:Int)(dH:ay)(cQ du:af):Tv R kk k J t9 dH cQ du=(Fc k t9 dH cQ du).bind fun e=>(Sum.elim (fun(we:lY)=>J .ret (zeg we.1 we.2.1 we.2.2.1 we.2.2.2.1 we.2.2.2.2.1 we.2.2.2.2.2)) (fun(we:lX)=>J (.exit 0) (zeh we.1 we.2.1 we.2.2)) e):=by
 induction k generalizing t9 dH cQ du with
 |zero=>rfl
 |succ k ih=>
  rw[akY]
  simp only[Fc,P7,ih,aD]
theorem ahW{kk:Nat}(hF:kk=ai)(t13 t15:Int)(dH:ay)(cQ du:af):Tx R kk k J t13 t15 dH cQ du=(Ff k t13 t15 dH cQ du).bind fun e=>(Sum.elim (fun(we:(Int×Int×Int×Int×ay×af×af))=>J .ret (zej we.1 we.2.1 we.2.2.1 we.2.2.2.1 we.2.2.2.2.1 we.2.2.2.2.2.1 we.2.2.2.2.2.2)) (fun(we:(Int×ay×af×af))=>J (.exit 4) (zek we.1 we.2.1 we.2.2.1 we.2.2.2)) e):=by
 induction k generalizing t13 t15 dH cQ du with
 |zero=>rfl
 |succ k ih=>
  rw[ak0]
  simp only[Ff,P9,ih,aD]
theorem ahV{kk:Nat}(hF:kk=ai)(t13:Int)(dH:ay)(cQ du:af):Tw R kk k J t13 dH cQ du=(Fe k t13 dH cQ du).bind fun e=>(Sum.elim (fun(we:jy)=>J .ret (SD we.1 we.2.1 we.2.2)) (fun(we:Unit)=>J (.exit 2) (zei)) e):=by
 induction k generalizing t13 dH cQ du with
 |zero=>rfl
 |succ k ih=>
  rw[akZ]
  simp only[Fe,P8,zx8,TB,ih,ahW (hF:=hF),aem,aen,aD,<-hF]
def wD:ah:=lU.add 61 [cD,aK,aK] (kH cD aK aK sM (fun _ r K=>K [tI r.1,tI r.2.1,tI r.2.2] none))
theorem o34:aP Tryz.prog wD:=kW vF Tryz.f61 (fun R kk x0 x1 x2 K=>Tz x0 x1 x2 (fun a0 a1 a2=>K [tI a0,tI a1,tI a2] none) (Tv R kk kk (zx2 R kk K))) o33 (ek _ _ _ _) Tryz.func61 (by kernel_rfl) rfl (fun _ _ _ _ _ _ h=>h _ _) (fun _ _ _ _ _ _=>by kernel_rfl) fun R kk e x0 x1 x2 K=>by
 simp only[sM,Tz,zx5,TA,zx6,zx7,ahU (hF:=e),ahV (hF:=e),aei,aej,aek,ael,aD,<-e]
def Wr:Env:=b9.env (fun i=>bif Nat.beq i 4 then [1,5] else []) (fun i=>bif Nat.beq i 4 then [2,3,4] else []) [] [bA]
def TU(a:Int)(b:aq):Option R:=aB (ev Wr (wD R) kk (sub [1,1,0,1,0,0] (cd Tryz.f41))) [1,5] [2,3,4] k ⟨uS 1 ([.ptr 2 bA []]::uS 3 ([tI a]::uS 56 [])),nS 2 ((some ⟨bA,b,[]⟩)::nS 60 [])⟩ J
def zey(a b c:Int):State:=⟨uS 2 ([tI a]::[tI b]::[tI c]::uS 57 []),nS 63 []⟩
def zez:State:=⟨uS 62 [],nS 63 []⟩
def zxt:KX R:=(zj 0 (aU Wr (wD R) kk (sub [1,1,1] (cd Tryz.f41)) (aS Wr Tryz.f41.results.toList none K)))
theorem ak8(a:Int)(b:aq):TU R kk (k+1) J a b=
 GO a b (fun a0 a1 a2=>J .ret (zey a0 a1 a2)) (TU R kk k J) (J (.exit 0) (zez)):=by kernel_rfl
theorem aeB(a b c:Int):zxt R kk K .ret (zey a b c)=
 zxu a b c (fun a0 a1 a2=>K [tI a0,tI a1,tI a2] none):=by kernel_rfl
theorem aeC:zxt R kk K (.exit 0) (zez)=
 zxv (fun a0 a1 a2=>K [tI a0,tI a1,tI a2] none):=by kernel_rfl
theorem ah4{kk:Nat}(hF:kk=ai)(t5:Int)(cZ:aq):TU R kk k J t5 cZ=(Fj k t5 cZ).bind fun e=>(Sum.elim (fun(we:jy)=>J .ret (zey we.1 we.2.1 we.2.2)) (fun(we:Unit)=>J (.exit 0) (zez)) e):=by
 induction k generalizing t5 cZ with
 |zero=>rfl
 |succ k ih=>
  rw[ak8]
  simp only[Fj,GO,ih,aD]
def IV:ah:=wD.add 41 [bA] (cO bA sR (fun _ r K=>K [tI r.1,tI r.2.1,tI r.2.2] none))
theorem o35:aP Tryz.prog IV:=cP Wr Tryz.f41 (fun R kk x0 K=>TV x0 (fun a0 a1 a2=>K [tI a0,tI a1,tI a2] none) (TU R kk kk (zxt R kk K))) o34 (ek _ _ _ _) Tryz.func41 (by kernel_rfl) rfl (fun _ _ _ _ _ _ h=>h _ _) (fun _ _ _ _=>by kernel_rfl) fun R kk e x0 K=>by
 simp only[sR,TV,zxu,zxv,ah4 (hF:=e),aeB,aeC,aD,<-e]
def anf:Env:=e0 [bA]
def IW:ah:=IV.add 14 [bA] (cO bA sT (fun _ r K=>K [tB r] none))
theorem o36:aP Tryz.prog IW:=cP anf Tryz.f14 (fun R kk x0 K=>TZ x0 (fun a0=>K [tB a0] none)) o35 (ek _ _ _ _) Tryz.func14 (by kernel_rfl) rfl (fun _ _ _ _ _ _ h=>h _ _) (fun _ _ _ _=>by kernel_rfl) fun R kk e x0 K=>by
 simp only[sT,TZ,aD]
def am7:Env:=e0 [(.sl 109 (.pair .str (.pair .str .unit)))]
def IX:ah:=IW.add 57 [(.sl 109 (.pair .str (.pair .str .unit)))] (cO (.sl 109 (.pair .str (.pair .str .unit))) qG (fun _ r K=>K [.ak (.sl 109 (.pair .str (.pair .str .unit))) r [[]]] none))
theorem o37:aP Tryz.prog IX:=cP am7 Tryz.f57 (fun R kk x0 K=>Ti x0 (fun a0=>K [.ak (.sl 109 (.pair .str (.pair .str .unit))) a0 [[]]] none)) o36 (ek _ _ _ _) Tryz.func57 (by kernel_rfl) rfl (fun _ _ _ _ _ _ h=>h _ _) (fun _ _ _ _=>by kernel_rfl) fun R kk e x0 K=>by
 simp only[qG,Ti,aD]
def am8:Env:=b9.env (fun _=>[]) (fun _=>[]) [2] [cA]
def wE:ah:=IX.add 58 [cA] (cO cA nW (fun _ r K=>K [.ak cA r [[4]]] none))
theorem o38:aP Tryz.prog wE:=cP am8 Tryz.f58 (fun R kk x0 K=>Ts x0 (fun a0=>K [.ak cA a0 [[4]]] none)) o37 (ek _ _ _ _) Tryz.func58 (by kernel_rfl) rfl (fun _ _ _ _ _ _ h=>h _ _) (fun _ _ _ _=>by kernel_rfl) fun R kk e x0 K=>by
 simp only[nW,Ts,aD]
def Wn:Env:=b9.env (fun i=>bif Nat.beq i 3 then [1,2,3,4] else []) (fun i=>bif Nat.beq i 3 then [2,3] else []) [2] [cD]
def TC(a:Int)(b c d:ay):Option R:=aB (ev Wn (wE R) kk (sub [1,1,0,1,0,0] (cd Tryz.f39))) [1,2,3,4] [2,3] k ⟨uS 1 ([.ptr 2 cD []]::[.ptr 3 cD []]::[.ptr 4 cD []]::[tI a]::uS 23 []),nS 2 ((some ⟨cD,b,[]⟩)::(some ⟨cD,c,[[0],[1]]⟩)::(some ⟨cD,d,[[0],[1]]⟩)::nS 24 [])⟩ J
def zel(a b:ay):State:=⟨uS 2 ([.ptr 3 cD []]::[.ptr 4 cD []]::uS 24 []),nS 3 ((some ⟨cD,a,[[0],[1]]⟩)::(some ⟨cD,b,[[0],[1]]⟩)::nS 24 [])⟩
def NZ:KX R:=(zj 0 (aU Wn (wE R) kk (sub [1,1,1] (cd Tryz.f39)) (aS Wn Tryz.f39.results.toList none K)))
theorem ak1(a:Int)(b c d:ay):TC R kk (k+1) J a b c d=
 zx9 a b c d (TC R kk k J) (fun a0 a1=>J (.exit 0) (zel a0 a1)):=by kernel_rfl
theorem aeo(a b:ay):NZ R kk K (.exit 0) (zel a b)=
 zxa a b (fun a0=>K [.ak cD a0 [[0],[1]]] none):=by kernel_rfl
theorem ahX{kk:Nat}(hF:kk=ai)(t4:Int)(cZ df dH:ay):TC R kk k J t4 cZ df dH=(Qa k t4 cZ df dH).bind fun e=>J (.exit 0) (zel e.1 e.2):=by
 induction k generalizing t4 cZ df dH with
 |zero=>rfl
 |succ k ih=>
  rw[ak1]
  simp only[Qa,zx9,ih,aD]
def IY:ah:=wE.add 39 [cD] (cO cD sN (fun _ r K=>K [.ak cD r [[0],[1]]] none))
theorem o39:aP Tryz.prog IY:=cP Wn Tryz.f39 (fun R kk x0 K=>TD x0 (TC R kk kk (NZ R kk K))) o38 (ek _ _ _ _) Tryz.func39 (by kernel_rfl) rfl (fun _ _ _ _ _ _ h=>h _ _) (fun _ _ _ _=>by kernel_rfl) fun R kk e x0 K=>by
 simp only[sN,TD,zxa,ahX (hF:=e),aeo,aD,<-e]
def Iy:Env:=b9.env (fun _=>[]) (fun _=>[]) [2] [aK]
def IZ:ah:=IY.add 59 [aK] (cO aK Ix (fun _ r K=>K [.ak aK r [[2]]] none))
theorem o40:aP Tryz.prog IZ:=cP Iy Tryz.f59 (fun R kk x0 K=>Yf x0 (fun a0=>K [.ak aK a0 [[2]]] none)) o39 (ek _ _ _ _) Tryz.func59 (by kernel_rfl) rfl (fun _ _ _ _ _ _ h=>h _ _) (fun _ _ _ _=>by kernel_rfl) fun R kk e x0 K=>by
 simp only[Ix,Yf,aD]
def anb:Env:=b9.env (fun _=>[]) (fun _=>[]) [2] [cw]
def wF:ah:=IZ.add 40 [cw] (cO cw sQ (fun _ r K=>K [.ak cw r [[3],[2],[0,2]]] none))
theorem o41:aP Tryz.prog wF:=cP anb Tryz.f40 (fun R kk x0 K=>TP x0 (fun a0=>K [.ak cw a0 [[3],[2],[0,2]]] none)) o40 (ek _ _ _ _) Tryz.func40 (by kernel_rfl) rfl (fun _ _ _ _ _ _ h=>h _ _) (fun _ _ _ _=>by kernel_rfl) fun R kk e x0 K=>by
 simp only[sQ,TP,aD]
def Ws:Env:={b9.env (fun i=>bif Nat.beq i 2 then [1,2,3] else []) (fun i=>bif Nat.beq i 2 then [1,2] else []) [2] [bA] with sh:=[20]}
def TW(a:Int)(b c:aq):Option R:=aB (ev Ws (wF R) kk (sub [1,0,1,0,0] (cd Tryz.f13))) [1,2,3] [1,2] k ⟨uS 1 ([.ptr 2 bA []]::[.ptr 3 bA []]::[tI a]::uS 25 []),nS 2 ((some ⟨bA,b,[]⟩)::(some ⟨bA,c,[]⟩)::nS 26 [])⟩ J
def zf0(a b:aq):State:=⟨uS 1 ([.ptr 2 bA []]::[.ptr 3 bA []]::uS 26 []),nS 2 ((some ⟨bA,a,[]⟩)::(some ⟨bA,b,[]⟩)::nS 26 [])⟩
def N0:KX R:=(zj 0 (aU Ws (wF R) kk (sub [1,1] (cd Tryz.f13)) (aS Ws Tryz.f13.results.toList none K)))
theorem ak9(a:Int)(b c:aq):TW R kk (k+1) J a b c=
 GQ a b c (TW R kk k J) (fun a0 a1=>J (.exit 0) (zf0 a0 a1)):=by kernel_rfl
theorem aeD(a b:aq):N0 R kk K (.exit 0) (zf0 a b)=
 zxw a b (fun a0=>K [.ak bA a0 []] none):=by kernel_rfl
theorem ah5{kk:Nat}(hF:kk=ai)(t3:Int)(cZ df:aq):TW R kk k J t3 cZ df=(Fk k t3 cZ df).bind fun e=>J (.exit 0) (zf0 e.1 e.2):=by
 induction k generalizing t3 cZ df with
 |zero=>rfl
 |succ k ih=>
  rw[ak9]
  simp only[Fk,GQ,ih,aD]
def I0:ah:=wF.add 13 [bA] (cO bA sS (fun _ r K=>K [.ak bA r []] none))
theorem o42:aP Tryz.prog I0:=cP Ws Tryz.f13 (fun R kk x0 K=>TX x0 (TW R kk kk (N0 R kk K))) o41 ((ek _ _ _ _).sh _) Tryz.func13 (by kernel_rfl) rfl (fun _ _ _ _ _ _ h=>h _ _) (fun _ _ _ _=>by kernel_rfl) fun R kk e x0 K=>by
 simp only[sS,TX,zxw,ah5 (hF:=e),aeD,aD,<-e]
def HF:Env:=e0 [(.int .i64)]
def I1:ah:=I0.add 200 [(.int .i64)] (cO (.int .i64) yn (fun _ r K=>K [tI r] none))
theorem o43:aP Tryz.prog I1:=cP HF Tryz.f200 (fun R kk x0 K=>WS x0 (fun a0=>K [tI a0] none)) o42 (ek _ _ _ _) Tryz.func200 (by kernel_rfl) rfl (fun _ _ _ _ _ _ h=>h _ _) (fun _ _ _ _=>by kernel_rfl) fun R kk e x0 K=>by
 simp only[yn,WS,aD]
def HB:Env:=e0 [(.int .i64)]
def I2:ah:=I1.add 148 [(.int .i64)] (cO (.int .i64) BB (fun _ r K=>K [tB r] none))
theorem o44:aP Tryz.prog I2:=cP HB Tryz.f148 (fun R kk x0 K=>WI x0 (fun a0=>K [tB a0] none)) o43 (ek _ _ _ _) Tryz.func148 (by kernel_rfl) rfl (fun _ _ _ _ _ _ h=>h _ _) (fun _ _ _ _=>by kernel_rfl) fun R kk e x0 K=>by
 simp only[BB,WI,aD]
def anw:Env:=e0 [(.int .i64)]
def wG:ah:=I2.add 201 [(.int .i64)] (cO (.int .i64) jU (fun _ r K=>K [tI r] none))
theorem o45:aP Tryz.prog wG:=cP anw Tryz.f201 (fun R kk x0 K=>Qq x0 (fun a0=>K [tI a0] none)) o44 (ek _ _ _ _) Tryz.func201 (by kernel_rfl) rfl (fun _ _ _ _ _ _ h=>h _ _) (fun _ _ _ _=>by kernel_rfl) fun R kk e x0 K=>by
 simp only[jU,Qq,aD]
def WK:Env:=b9.env (fun i=>bif Nat.beq i 3 then [3,5,6] else []) (fun i=>bif Nat.beq i 3 then [3] else []) [] [(.int .i64)]
def UA(a b c:Int):Option R:=aB (ev WK (wG R) kk (sub [1,1,0,1,0,0] (cd Tryz.f149))) [3,5,6] [3] k ⟨uS 3 ([tI a]::uS 1 ([tI b]::[tI c]::uS 6 [])),nS 14 []⟩ J
def zfl(a:Int):State:=⟨uS 3 ([tI a]::uS 9 []),nS 14 []⟩
def N7:KX R:=(zj 0 (aU WK (wG R) kk (sub [1,1,1] (cd Tryz.f149)) (aS WK Tryz.f149.results.toList none K)))
theorem alo(a b c:Int):UA R kk (k+1) J a b c=
 zyz a b c (UA R kk k J) (fun a0=>J (.exit 0) (zfl a0)):=by kernel_rfl
theorem aeW(a:Int):N7 R kk K (.exit 0) (zfl a)=
 zz0 a (fun a0=>K [tI a0] none):=by kernel_rfl
theorem ail{kk:Nat}(hF:kk=ai)(t3 t5 t6:Int):UA R kk k J t3 t5 t6=(UB k t3 t5 t6).bind fun e=>J (.exit 0) (zfl e):=by
 induction k generalizing t3 t5 t6 with
 |zero=>rfl
 |succ k ih=>
  rw[alo]
  simp only[UB,zyz,ih,aD]
def I3:ah:=wG.add 149 [(.int .i64)] (cO (.int .i64) qL (fun _ r K=>K [tI r] none))
theorem o46:aP Tryz.prog I3:=cP WK Tryz.f149 (fun R kk x0 K=>zyy x0 (UA R kk kk (N7 R kk K))) o45 (ek _ _ _ _) Tryz.func149 (by kernel_rfl) rfl (fun _ _ _ _ _ _ h=>h _ _) (fun _ _ _ _=>by kernel_rfl) fun R kk e x0 K=>by
 simp only[qL,zyy,zz0,ail (hF:=e),aeW,aD,<-e]
def anK:Env:=e0 [cK]
def wH:ah:=I3.add 96 [cK] (cO cK lR (fun _ r K=>K [tI r] none))
theorem o47:aP Tryz.prog wH:=cP anK Tryz.f96 (fun R kk x0 K=>Vg x0 (fun a0=>K [tI a0] none)) o46 (ek _ _ _ _) Tryz.func96 (by kernel_rfl) rfl (fun _ _ _ _ _ _ h=>h _ _) (fun _ _ _ _=>by kernel_rfl) fun R kk e x0 K=>by
 simp only[lR,Vg,aD]
def WQ:Env:=b9.env (fun i=>bif Nat.beq i 6 then [1,26,27,28] else []) (fun i=>bif Nat.beq i 6 then [2,3] else []) [] [aK]
def U3(a:gU)(b c:Int)(d:af):Option R:=aB (ev WQ (wH R) kk (sub [1,1,0,1,0,0] (cd Tryz.f68))) [1,26,27,28] [2,3] k ⟨uS 1 ([.ptr 2 aK []]::uS 24 ([.ak (.sl 127 cK) a []]::[tI b]::[tI c]::uS 26 [])),nS 2 ((some ⟨aK,d,[]⟩)::nS 53 [])⟩ J
def zfz(a b:Int):State:=⟨uS 2 ([tI a]::[tI b]::uS 51 []),nS 56 []⟩
def zg0:State:=⟨uS 55 [],nS 56 []⟩
def zzj:KX R:=(zj 1 (aU WQ (wH R) kk (sub [1,1,1] (cd Tryz.f68)) (aS WQ Tryz.f68.results.toList none K)))
theorem alx(a:gU)(b c:Int)(d:af):U3 R kk (k+1) J a b c d=
 Qw a b c d (fun a0 a1=>J .ret (zfz a0 a1)) (U3 R kk k J) (J (.exit 1) (zg0)):=by kernel_rfl
theorem afa(a b:Int):zzj R kk K .ret (zfz a b)=
 U4 a b (fun a0 a1=>K [tI a0,tI a1] none):=by kernel_rfl
theorem afb:zzj R kk K (.exit 1) (zg0)=
 U5 (fun a0 a1=>K [tI a0,tI a1] none):=by kernel_rfl
theorem ait{kk:Nat}(hF:kk=ai)(t26:gU)(t27 t28:Int)(cZ:af):U3 R kk k J t26 t27 t28 cZ=(Bg k t26 t27 t28 cZ).bind fun e=>(Sum.elim (fun(we:(Int×Int))=>J .ret (zfz we.1 we.2)) (fun(we:Unit)=>J (.exit 1) (zg0)) e):=by
 induction k generalizing t26 t27 t28 cZ with
 |zero=>rfl
 |succ k ih=>
  rw[alx]
  simp only[Bg,Qw,ih,aD]
def wI:ah:=wH.add 68 [aK] (cO aK mM (fun _ r K=>K [tI r.1,tI r.2] none))
theorem o48:aP Tryz.prog wI:=cP WQ Tryz.f68 (fun R kk x0 K=>GX x0 (fun a0 a1=>K [tI a0,tI a1] none) (fun a0 a1 a2 a3=>U3 R kk kk (zzj R kk K) a0 a1 a2 a3)) o47 (ek _ _ _ _) Tryz.func68 (by kernel_rfl) rfl (fun _ _ _ _ _ _ h=>h _ _) (fun _ _ _ _=>by kernel_rfl) fun R kk e x0 K=>by
 simp only[mM,z154,U4,U5,ait (hF:=e),afa,afb,aD,<-e]
def WR:Env:=b9.env (fun i=>bif Nat.beq i 2 then [1,4,9,10,11] else []) (fun i=>bif Nat.beq i 2 then [4,5] else []) [4] [aK,(.int .i64)]
def U6(a:Int)(b:gU)(c d:Int)(e:aT):Option R:=aB (ev WR (wI R) kk (sub [1,0,1,0,0] (cd Tryz.f69))) [1,4,9,10,11] [4,5] k ⟨uS 1 ([tI a]::uS 2 ([.ptr 5 cK []]::uS 4 ([.ak (.sl 127 cK) b []]::[tI c]::[tI d]::uS 10 []))),nS 5 ((some ⟨cK,e,[]⟩)::nS 17 [])⟩ J
def zg1(a:Bool)(b:aT):State:=⟨uS 4 ([.ptr 5 cK []]::[tB a]::uS 16 []),nS 5 ((some ⟨cK,b,[]⟩)::nS 17 [])⟩
def zg2(a:aT):State:=⟨uS 4 ([.ptr 5 cK []]::uS 17 []),nS 5 ((some ⟨cK,a,[]⟩)::nS 17 [])⟩
def zzk:KX R:=(zj 0 (aU WR (wI R) kk (sub [1,1] (cd Tryz.f69)) (aS WR Tryz.f69.results.toList none K)))
theorem aly(a:Int)(b:gU)(c d:Int)(e:aT):U6 R kk (k+1) J a b c d e=
 zzl a b c d e (fun a0 a1=>J .ret (zg1 a0 a1)) (U6 R kk k J) (fun a0=>J (.exit 0) (zg2 a0)):=by kernel_rfl
theorem afc(a:Bool)(b:aT):zzk R kk K .ret (zg1 a b)=
 zzm a b (fun a0 a1=>K [.ak cK a0 [],tB a1] none):=by kernel_rfl
theorem afd(a:aT):zzk R kk K (.exit 0) (zg2 a)=
 zzn a (fun a0 a1=>K [.ak cK a0 [],tB a1] none):=by kernel_rfl
theorem aiu{kk:Nat}(hF:kk=ai)(fq:Int)(t9:gU)(t10 t11:Int)(cQ:aT):U6 R kk k J fq t9 t10 t11 cQ=(Qx k fq t9 t10 t11 cQ).bind fun e=>(Sum.elim (fun(we:(Bool×aT))=>J .ret (zg1 we.1 we.2)) (fun(we:aT)=>J (.exit 0) (zg2 we)) e):=by
 induction k generalizing fq t9 t10 t11 cQ with
 |zero=>rfl
 |succ k ih=>
  rw[aly]
  simp only[Qx,zzl,ih,aD]
def wJ:ah:=wI.add 69 [aK,(.int .i64)] (dp aK (.int .i64) fR (fun _ r K=>K [.ak cK r.1 [],tB r.2] none))
theorem o49:aP Tryz.prog wJ:=dx WR Tryz.f69 (fun R kk x0 x1 K=>U7 x0 x1 (U6 R kk kk (zzk R kk K))) o48 (ek _ _ _ _) Tryz.func69 (by kernel_rfl) rfl (fun _ _ _ _ _ _ h=>h _ _) (fun _ _ _ _ _=>by kernel_rfl) fun R kk e x0 x1 K=>by
 simp only[fR,U7,zzm,zzn,aiu (hF:=e),afc,afd,aD,<-e]
def WV:Env:=b9.env (fun i=>bif Nat.beq i 2 then [0,1,7,8] else []) (fun i=>bif Nat.beq i 2 then [4] else []) [] [(.sl 3 (.int .i64)),(.int .i64)]
def Ve(a:(List Int))(b c d:Int):Option R:=aB (ev WV (wJ R) kk (sub [1,0,1,0,0] (cd Tryz.f150))) [0,1,7,8] [4] k ⟨[.ak (.sl 3 (.int .i64)) a []]::[tI b]::uS 5 ([tI c]::[tI d]::uS 10 []),nS 20 []⟩ J
def zg7(a:Int):State:=⟨uS 4 ([tI a]::uS 14 []),nS 20 []⟩
def zg8:State:=⟨uS 19 [],nS 20 []⟩
def zzx:KX R:=(zj 0 (aU WV (wJ R) kk (sub [1,1] (cd Tryz.f150)) (aS WV Tryz.f150.results.toList none K)))
theorem alC(a:(List Int))(b c d:Int):Ve R kk (k+1) J a b c d=
 zzy a b c d (fun a0=>J .ret (zg7 a0)) (Ve R kk k J) (J (.exit 0) (zg8)):=by kernel_rfl
theorem afi(a:Int):zzx R kk K .ret (zg7 a)=
 zzz a (fun a0=>K [tI a0] none):=by kernel_rfl
theorem afj:zzx R kk K (.exit 0) (zg8)=
 CQ (fun a0=>K [tI a0] none):=by kernel_rfl
theorem aix{kk:Nat}(hF:kk=ai)(lZ:(List Int))(YK t7 t8:Int):Ve R kk k J lZ YK t7 t8=(QA k lZ YK t7 t8).bind fun e=>(Sum.elim (fun(we:Int)=>J .ret (zg7 we)) (fun(we:Unit)=>J (.exit 0) (zg8)) e):=by
 induction k generalizing lZ YK t7 t8 with
 |zero=>rfl
 |succ k ih=>
  rw[alC]
  simp only[QA,zzy,ih,aD]
def I4:ah:=wJ.add 150 [(.sl 3 (.int .i64)),(.int .i64)] (dp (.sl 3 (.int .i64)) (.int .i64) vT (fun _ r K=>K [tI r] none))
theorem o50:aP Tryz.prog I4:=dx WV Tryz.f150 (fun R kk x0 x1 K=>Vf x0 x1 (Ve R kk kk (zzx R kk K))) o49 (ek _ _ _ _) Tryz.func150 (by kernel_rfl) rfl (fun _ _ _ _ _ _ h=>h _ _) (fun _ _ _ _ _=>by kernel_rfl) fun R kk e x0 x1 K=>by
 simp only[vT,Vf,zzz,CQ,aix (hF:=e),afi,afj,aD,<-e]
def anI:Env:=e0 [(.sl 3 (.int .i64)),(.int .i64)]
def I5:ah:=I4.add 97 [(.sl 3 (.int .i64)),(.int .i64)] (dp (.sl 3 (.int .i64)) (.int .i64) tm (fun _ r K=>K [tB r] none))
theorem o51:aP Tryz.prog I5:=dx anI Tryz.f97 (fun R kk x0 x1 K=>U9 x0 x1 (fun a0=>K [tB a0] none)) o50 (ek _ _ _ _) Tryz.func97 (by kernel_rfl) rfl (fun _ _ _ _ _ _ h=>h _ _) (fun _ _ _ _ _=>by kernel_rfl) fun R kk e x0 x1 K=>by
 simp only[tm,U9,aD]
def anA:Env:=e0 [cw,(.int .i64)]
def I6:ah:=I5.add 70 [cw,(.int .i64)] (dp cw (.int .i64) tg (fun _ r K=>K [tI r] none))
theorem o52:aP Tryz.prog I6:=dx anA Tryz.f70 (fun R kk x0 x1 K=>UR x0 x1 (fun a0=>K [tI a0] none)) o51 (ek _ _ _ _) Tryz.func70 (by kernel_rfl) rfl (fun _ _ _ _ _ _ h=>h _ _) (fun _ _ _ _ _=>by kernel_rfl) fun R kk e x0 x1 K=>by
 simp only[tg,UR,aD]
def anz:Env:=e0 [(.pair (.int .i64) (.pair .str .unit)),.unit]
def wK:ah:=I6.add 99 [(.pair (.int .i64) (.pair .str .unit)),.unit] (pz (.pair (.int .i64) (.pair .str .unit)) (.pair (.int .i64) (.pair .str .unit)) (.pair (.int .i64) (.pair .str .unit)) [] qO (fun _ r K=>K [tB r.1] (some ⟨(.pair (.int .i64) (.pair .str .unit)),r.2,[]⟩)))
theorem o53:aP Tryz.prog wK:=sz anz Tryz.f99 (fun R kk x0 x1 K=>UQ x0 x1 (fun a0 a1=>K [tB a0] (some ⟨(.pair (.int .i64) (.pair .str .unit)),a1,[]⟩))) o52 (ek _ _ _ _) Tryz.func99 (by kernel_rfl) rfl (fun _ _ _ _ _ _ h=>h _ _) (fun _ _ _ _ _=>by kernel_rfl) fun R kk e x0 x1 K=>by
 simp only[qO,UQ,aD]
def WT:Env:=b9.env (fun i=>bif Nat.beq i 2 then [0,1,7,8] else []) (fun i=>bif Nat.beq i 2 then [4] else []) [] [(.sl 107 (.pair (.int .i64) (.pair .str .unit))),.unit]
def Va(a:al)(b c:Int)(d:bj):Option R:=aB (ev WT (wK R) kk (sub [1,0,1,0,0] (cd Tryz.f151))) [0,1,7,8] [4] k ⟨[.ak (.sl 107 (.pair (.int .i64) (.pair .str .unit))) a []]::[.ptr 0 (.aG (.rW 99) (.pair (.int .i64) (.pair .str .unit)) .unit) []]::uS 5 ([tI b]::[tI c]::uS 10 []),(some ⟨(.pair (.int .i64) (.pair .str .unit)),d,[]⟩)::nS 19 []⟩ J
def zg3(a:Int)(b:bj):State:=⟨uS 4 ([tI a]::uS 14 []),(some ⟨(.pair (.int .i64) (.pair .str .unit)),b,[]⟩)::nS 19 []⟩
def zg4(a:bj):State:=⟨uS 19 [],(some ⟨(.pair (.int .i64) (.pair .str .unit)),a,[]⟩)::nS 19 []⟩
def zzp(a:bj):KX R:=(zj 0 (aU WT (wK R) kk (sub [1,1] (cd Tryz.f151)) (aS WT Tryz.f151.results.toList (some ⟨(.pair (.int .i64) (.pair .str .unit)),a,[]⟩) K)))
theorem alA(a:al)(b c:Int)(d:bj):Va R kk (k+1) J a b c d=
 zzq a b c d (fun a0 a1=>J .ret (zg3 a0 a1)) (Va R kk k J) (fun a0=>J (.exit 0) (zg4 a0)):=by kernel_rfl
theorem afe(a:bj)(b:Int)(c:bj):zzp R kk K a .ret (zg3 b c)=
 zzr b c (fun a0 a1=>K [tI a0] (some ⟨(.pair (.int .i64) (.pair .str .unit)),a1,[]⟩)):=by kernel_rfl
theorem aff(a b:bj):zzp R kk K a (.exit 0) (zg4 b)=
 zzs b (fun a0 a1=>K [tI a0] (some ⟨(.pair (.int .i64) (.pair .str .unit)),a1,[]⟩)):=by kernel_rfl
theorem aiv{kk:Nat}(hF:kk=ai)(lZ:al)(t7 t8:Int)(recv:bj):Va R kk k J lZ t7 t8 recv=(Qy k lZ t7 t8 recv).bind fun e=>(Sum.elim (fun(we:(Int×bj))=>J .ret (zg3 we.1 we.2)) (fun(we:bj)=>J (.exit 0) (zg4 we)) e):=by
 induction k generalizing lZ t7 t8 recv with
 |zero=>rfl
 |succ k ih=>
  rw[alA]
  simp only[Qy,zzq,ih,aD]
def I7:ah:=wK.add 151 [(.sl 107 (.pair (.int .i64) (.pair .str .unit))),.unit] (pz (.sl 107 (.pair (.int .i64) (.pair .str .unit))) (.aG (.rW 99) (.pair (.int .i64) (.pair .str .unit)) .unit) (.pair (.int .i64) (.pair .str .unit)) [] vS (fun _ r K=>K [tI r.1] (some ⟨(.pair (.int .i64) (.pair .str .unit)),r.2,[]⟩)))
theorem o54:aP Tryz.prog I7:=sz WT Tryz.f151 (fun R kk x0 x1 K=>Vb x0 x1 (Va R kk kk (zzp R kk K x1))) o53 (ek _ _ _ _) Tryz.func151 (by kernel_rfl) rfl (fun _ _ _ _ _ _ h=>h _ _) (fun _ _ _ _ _=>by kernel_rfl) fun R kk e x0 x1 K=>by
 simp only[vS,Vb,zzr,zzs,aiv (hF:=e),afe,aff,aD,<-e]
def anH:Env:=e0 [(.sl 107 (.pair (.int .i64) (.pair .str .unit))),.unit]
def I8:ah:=I7.add 98 [(.sl 107 (.pair (.int .i64) (.pair .str .unit))),.unit] (pz (.sl 107 (.pair (.int .i64) (.pair .str .unit))) (.aG (.rW 99) (.pair (.int .i64) (.pair .str .unit)) .unit) (.pair (.int .i64) (.pair .str .unit)) [] tk (fun _ r K=>K [tB r.1] (some ⟨(.pair (.int .i64) (.pair .str .unit)),r.2,[]⟩)))
theorem o55:aP Tryz.prog I8:=sz anH Tryz.f98 (fun R kk x0 x1 K=>U8 x0 x1 (fun a0 a1=>K [tB a0] (some ⟨(.pair (.int .i64) (.pair .str .unit)),a1,[]⟩))) o54 (ek _ _ _ _) Tryz.func98 (by kernel_rfl) rfl (fun _ _ _ _ _ _ h=>h _ _) (fun _ _ _ _ _=>by kernel_rfl) fun R kk e x0 x1 K=>by
 simp only[tk,U8,aD]
def HE:Env:=e0 [(.int .u8)]
def wL:ah:=I8.add 202 [(.int .u8)] (cO (.int .u8) BC (fun _ r K=>K [tI r] none))
theorem o56:aP Tryz.prog wL:=cP HE Tryz.f202 (fun R kk x0 K=>DI x0 (fun a0=>K [tI a0] none)) o55 (ek _ _ _ _) Tryz.func202 (by kernel_rfl) rfl (fun _ _ _ _ _ _ h=>h _ _) (fun _ _ _ _=>by kernel_rfl) fun R kk e x0 K=>by
 simp only[BC,DI,aD]
def oV:Env:=b9.env (fun i=>bif Nat.beq i 3 then [1,5,6] else []) (fun i=>bif Nat.beq i 3 then [4] else []) [] [(.int .i64),.str]
def WC(a:ByteArray)(b c:Int):Option R:=aB (ev oV (wL R) kk (sub [1,1,0,1,0,0] (cd Tryz.f152))) [1,5,6] [4] k ⟨uS 1 ([tS a]::uS 3 ([tI b]::[tI c]::uS 16 [])),nS 24 []⟩ J
def zp9(a:Int):State:=⟨uS 4 ([tI a]::uS 18 []),nS 24 []⟩
def zpa:State:=⟨uS 23 [],nS 24 []⟩
def DG:KX R:=(zj 0 (aU oV (wL R) kk (sub [1,1,1] (cd Tryz.f152)) (aS oV Tryz.f152.results.toList none K)))
theorem anj(a:ByteArray)(b c:Int):WC R kk (k+1) J a b c=
 QX a b c (fun a0=>J .ret (zp9 a0)) (WC R kk k J) (J (.exit 0) (zpa)):=by kernel_rfl
theorem aie(a:Int):DG R kk K .ret (zp9 a)=
 DH a (fun a0=>K [tI a0] none):=by kernel_rfl
theorem aif:DG R kk K (.exit 0) (zpa)=
 z152 (fun a0=>K [tI a0] none):=by kernel_rfl
theorem ali{kk:Nat}(hF:kk=ai)(jI:ByteArray)(t5 t6:Int):WC R kk k J jI t5 t6=(FC k jI t5 t6).bind fun e=>(Sum.elim (fun(we:Int)=>J .ret (zp9 we)) (fun(we:Unit)=>J (.exit 0) (zpa)) e):=by
 induction k generalizing jI t5 t6 with
 |zero=>rfl
 |succ k ih=>
  rw[anj]
  simp only[FC,QX,ih,aD]
def I9:ah:=wL.add 152 [(.int .i64),.str] (dp (.int .i64) .str HA (fun _ r K=>K [tI r] none))
theorem o57:aP Tryz.prog I9:=dx oV Tryz.f152 (fun R kk x0 x1 K=>WD x0 x1 (WC R kk kk (DG R kk K))) o56 (ek _ _ _ _) Tryz.func152 (by kernel_rfl) rfl (fun _ _ _ _ _ _ h=>h _ _) (fun _ _ _ _ _=>by kernel_rfl) fun R kk e x0 x1 K=>by
 simp only[HA,WD,DH,z152,ali (hF:=e),aie,aif,aD,<-e]
def anT:Env:=e0 [(.int .i64)]
def Ja:ah:=I9.add 222 [(.int .i64)] (cO (.int .i64) n6 (fun _ r K=>K [tB r] none))
theorem o58:aP Tryz.prog Ja:=cP anT Tryz.f222 (fun R kk x0 K=>CU x0 (fun a0=>K [tB a0] none)) o57 (ek _ _ _ _) Tryz.func222 (by kernel_rfl) rfl (fun _ _ _ _ _ _ h=>h _ _) (fun _ _ _ _=>by kernel_rfl) fun R kk e x0 K=>by
 simp only[n6,CU,aD]
def anS:Env:=e0 [(.int .i64)]
def Jb:ah:=Ja.add 223 [(.int .i64)] (cO (.int .i64) tA (fun _ r K=>K [tB r] none))
theorem o59:aP Tryz.prog Jb:=cP anS Tryz.f223 (fun R kk x0 K=>Vx x0 (fun a0=>K [tB a0] none)) o58 (ek _ _ _ _) Tryz.func223 (by kernel_rfl) rfl (fun _ _ _ _ _ _ h=>h _ _) (fun _ _ _ _=>by kernel_rfl) fun R kk e x0 K=>by
 simp only[tA,Vx,aD]
def anR:Env:=e0 [.str,(.int .i64)]
def Jc:ah:=Jb.add 203 [.str,(.int .i64)] (dp .str (.int .i64) tz (fun _ r K=>K [tI r.1,tI r.2.1,tI r.2.2] none))
theorem o60:aP Tryz.prog Jc:=dx anR Tryz.f203 (fun R kk x0 x1 K=>Vw x0 x1 (fun a0 a1 a2=>K [tI a0,tI a1,tI a2] none)) o59 (ek _ _ _ _) Tryz.func203 (by kernel_rfl) rfl (fun _ _ _ _ _ _ h=>h _ _) (fun _ _ _ _ _=>by kernel_rfl) fun R kk e x0 x1 K=>by
 simp only[tz,Vw,aD]
def YD:Env:=e0 [(.int .i64)]
def wM:ah:=Jc.add 224 [(.int .i64)] (cO (.int .i64) Q4 (fun _ r K=>K [tI r] none))
theorem o61:aP Tryz.prog wM:=cP YD Tryz.f224 (fun R kk x0 K=>pr x0 (fun a0=>K [tI a0] none)) o60 (ek _ _ _ _) Tryz.func224 (by kernel_rfl) rfl (fun _ _ _ _ _ _ h=>h _ _) (fun _ _ _ _=>by kernel_rfl) fun R kk e x0 K=>by
 simp only[Q4,pr,aD]
def vX:Env:=b9.env (fun i=>bif Nat.beq i 14 then [0,1,7,8,44,45] else []) (fun i=>bif Nat.beq i 14 then [1,7,8] else []) [] [.str,(.int .i64)]
def pj(a:ByteArray)(b c d e f:Int):Option R:=aB (ev vX (wM R) kk (sub [1,1,1,1,1,1,1,0,1,0,0] (cd Tryz.f204))) [0,1,7,8,44,45] [1,7,8] k ⟨[tS a]::[tI b]::uS 5 ([tI c]::[tI d]::uS 35 ([tI e]::[tI f]::uS 21 [])),nS 68 []⟩ J
def Dl(a b c:Int):State:=⟨uS 1 ([tI a]::uS 5 ([tI b]::[tI c]::uS 58 [])),nS 68 []⟩
def yu:KX R:=(zj 0 (aU vX (wM R) kk (sub [1,1,1,1,1,1,1,1] (cd Tryz.f204)) (aS vX Tryz.f204.results.toList none K)))
theorem H2(a:ByteArray)(b c d e f:Int):pj R kk (k+1) J a b c d e f=
 lf a b c d e f (pj R kk k J) (fun a0 a1 a2=>J (.exit 0) (Dl a0 a1 a2)):=by kernel_rfl
theorem alW(a b c:Int):yu R kk K (.exit 0) (Dl a b c)=
 lg a b c (fun a0 a1 a2=>K [tI a0,tI a1,tI a2] none):=by kernel_rfl
theorem an3{kk:Nat}(hF:kk=ai)(og:ByteArray)(BL t7 t8 t44 t45:Int):pj R kk k J og BL t7 t8 t44 t45=(eS k og BL t7 t8 t44 t45).bind fun e=>J (.exit 0) (Dl e.1 e.2.1 e.2.2):=by
 induction k generalizing og BL t7 t8 t44 t45 with
 |zero=>rfl
 |succ k ih=>
  rw[H2]
  simp only[eS,lf,ih,aD]
def wN:ah:=wM.add 204 [.str,(.int .i64)] (dp .str (.int .i64) Q3 (fun _ r K=>K [tI r.1,tI r.2.1,tI r.2.2] none))
theorem o62:aP Tryz.prog wN:=dx vX Tryz.f204 (fun R kk x0 x1 K=>ld x0 x1 (fun a0 a1 a2=>K [tI a0,tI a1,tI a2] none) (fun a0 a1 a2 a3 a4 a5=>pj R kk kk (yu R kk K) a0 a1 a2 a3 a4 a5)) o61 (ek _ _ _ _) Tryz.func204 (by kernel_rfl) rfl (fun _ _ _ _ _ _ h=>h _ _) (fun _ _ _ _ _=>by kernel_rfl) fun R kk e x0 x1 K=>by
 simp only[Q3,ac2,lg,an3 (hF:=e),alW,aD,<-e]
def W3:Env:=b9.env (fun i=>bif Nat.beq i 4 then [0,5,6,7,13] else []) (fun i=>bif Nat.beq i 4 then [2,3,4,5] else []) [] [.str]
def Vy(a:ByteArray)(b:al)(c:Int)(d:BI):Option R:=aB (ev W3 (wN R) kk (sub [1,1,1,0,1,0,0] (cd Tryz.f153))) [0,5,6,7,13] [2,3,4,5] k ⟨[tS a]::uS 4 ([.ak (.sl 245 (.pair (.int .i64) (.pair .str .unit))) b [[]]]::[.ptr 14 (.aG .mp (.int .i64) .bool) []]::[tI c]::uS 5 ([.ptr 14 (.aG .mp (.int .i64) .bool) []]::uS 58 [])),nS 14 ((some ⟨(.aG .mp (.int .i64) .bool),d,[]⟩)::nS 58 [])⟩ J
def zge(a:al)(b c:Int)(d:al):State:=⟨uS 2 ([.ak (.sl 245 (.pair (.int .i64) (.pair .str .unit))) a [[]]]::[tI b]::[tI c]::[.ak (.sl 245 (.pair (.int .i64) (.pair .str .unit))) d [[]]]::uS 66 []),nS 73 []⟩
def zgf(a:al):State:=⟨uS 5 ([.ak (.sl 245 (.pair (.int .i64) (.pair .str .unit))) a [[]]]::uS 66 []),nS 73 []⟩
def z105:KX R:=(zj 0 (aU W3 (wN R) kk (sub [1,1,1,1] (cd Tryz.f153)) (aS W3 Tryz.f153.results.toList none K)))
theorem alH(a:ByteArray)(b:al)(c:Int)(d:BI):Vy R kk (k+1) J a b c d=
 VA a b c d (fun a0 a1 a2 a3=>J .ret (zge a0 a1 a2 a3)) (Vy R kk k J) (fun a0=>J (.exit 0) (zgf a0)):=by kernel_rfl
theorem afo(a:al)(b c:Int)(d:al):z105 R kk K .ret (zge a b c d)=
 CV a b c d (fun a0 a1 a2=>K [.ak (.sl 245 (.pair (.int .i64) (.pair .str .unit))) a0 [[]],tI a1,tI a2] none):=by kernel_rfl
theorem afp(a:al):z105 R kk K (.exit 0) (zgf a)=
 z107 a (fun a0 a1 a2=>K [.ak (.sl 245 (.pair (.int .i64) (.pair .str .unit))) a0 [],tI a1,tI a2] none):=by kernel_rfl
theorem aiD{kk:Nat}(hF:kk=ai)(og:ByteArray)(t5:al)(t7:Int)(j6:BI):Vy R kk k J og t5 t7 j6=(G0 k og t5 t7 j6).bind fun e=>(Sum.elim (fun(we:qW)=>J .ret (zge we.1 we.2.1 we.2.2.1 we.2.2.2)) (fun(we:al)=>J (.exit 0) (zgf we)) e):=by
 induction k generalizing og t5 t7 j6 with
 |zero=>rfl
 |succ k ih=>
  rw[alH]
  simp only[G0,VA,ih,aD]
def Jd:ah:=wN.add 153 [.str] (cO .str tC (fun _ r K=>(Sum.elim (fun(wr:jz)=>K [.ak (.sl 245 (.pair (.int .i64) (.pair .str .unit))) wr.1 [[]],tI wr.2.1,tI wr.2.2] none) (fun(wr:jz)=>K [.ak (.sl 245 (.pair (.int .i64) (.pair .str .unit))) wr.1 [],tI wr.2.1,tI wr.2.2] none) r)))
theorem o63:aP Tryz.prog Jd:=cP W3 Tryz.f153 (fun R kk x0 K=>Vz x0 (Vy R kk kk (z105 R kk K))) o62 (ek _ _ _ _) Tryz.func153 (by kernel_rfl) rfl (fun _ _ _ _ _ _ h=>QT (fun _=>h _ _) (fun _=>h _ _)) (fun _ _ _ _=>by kernel_rfl) fun R kk e x0 K=>by
 simp only[tC,Vz,CV,z107,aiD (hF:=e),afo,afp,aD,<-e]
def anL:Env:=e0 [cK,.str]
def Je:ah:=Jd.add 100 [cK,.str] (dp cK .str bY (fun _ r K=>K [tI r] none))
theorem o64:aP Tryz.prog Je:=dx anL Tryz.f100 (fun R kk x0 x1 K=>Vh x0 x1 (fun a0=>K [tI a0] none)) o63 (ek _ _ _ _) Tryz.func100 (by kernel_rfl) rfl (fun _ _ _ _ _ _ h=>h _ _) (fun _ _ _ _ _=>by kernel_rfl) fun R kk e x0 x1 K=>by
 simp only[bY,Vh,aD]
def anx:Env:=e0 [cw,(.int .i64),cK]
def qV:ah:=Je.add 71 [cw,(.int .i64),cK] (kH cw (.int .i64) cK tf (fun _ r K=>K [tI r] none))
theorem o65:aP Tryz.prog qV:=kW anx Tryz.f71 (fun R kk x0 x1 x2 K=>UP x0 x1 x2 (fun a0=>K [tI a0] none)) o64 (ek _ _ _ _) Tryz.func71 (by kernel_rfl) rfl (fun _ _ _ _ _ _ h=>h _ _) (fun _ _ _ _ _ _=>by kernel_rfl) fun R kk e x0 x1 x2 K=>by
 simp only[tf,UP,aD]
def z93:Env:=b9.env (fun i=>bif Nat.beq i 8 then [1,7,33,34] else bif Nat.beq i 16 then [1,7,11,46,47,48] else []) (fun i=>bif Nat.beq i 8 then [1,2,3,4,7] else bif Nat.beq i 16 then [1,2,3,4,11] else []) [] [cw]
def UG(a b:Int)(c:au)(d:aT):Option R:=aB (ev z93 (qV R) kk (sub [1,1,1,1,0,1,0,0] (cd Tryz.f55))) [1,7,33,34] [1,2,3,4,7] k ⟨uS 1 ([.ptr 2 cw []]::uS 5 ([.ptr 8 cK []]::uS 25 ([tI a]::[tI b]::uS 38 []))),nS 2 ((some ⟨cw,c,[]⟩)::nS 5 ((some ⟨cK,d,[]⟩)::nS 65 []))⟩ J
def zfn(a b c:Int)(d:au)(e:aT):State:=⟨uS 1 ([.ptr 2 cw []]::[tI a]::[tI b]::[tI c]::uS 2 ([.ptr 8 cK []]::uS 65 [])),nS 2 ((some ⟨cw,d,[]⟩)::nS 5 ((some ⟨cK,e,[]⟩)::nS 65 []))⟩
def zfo(a:au)(b:aT):State:=⟨uS 1 ([.ptr 2 cw []]::uS 5 ([.ptr 8 cK []]::uS 65 [])),nS 2 ((some ⟨cw,a,[]⟩)::nS 5 ((some ⟨cK,b,[]⟩)::nS 65 []))⟩
def zz2:KX R:=(zj 0 (aU z93 (qV R) kk (sub [1,1,1,1,1] (cd Tryz.f55)) (aS z93 Tryz.f55.results.toList none K)))
def UH(a:Bool)(b:al)(c d:Int)(e:au)(f:aT):Option R:=aB (ev z93 (qV R) kk (sub [1,1,1,1,1,1,0,1,0,0] (cd Tryz.f55))) [1,7,11,46,47,48] [1,2,3,4,11] k ⟨uS 1 ([.ptr 2 cw []]::uS 5 ([.ptr 8 cK []]::uS 3 ([tB a]::uS 34 ([.ak (.sl 107 (.pair (.int .i64) (.pair .str .unit))) b []]::[tI c]::[tI d]::uS 24 [])))),nS 2 ((some ⟨cw,e,[]⟩)::nS 5 ((some ⟨cK,f,[]⟩)::nS 65 []))⟩ J
def zfp(a b c:Int)(d:Bool)(e:au):State:=⟨uS 1 ([.ptr 2 cw []]::[tI a]::[tI b]::[tI c]::uS 6 ([tB d]::uS 61 [])),nS 2 ((some ⟨cw,e,[]⟩)::nS 71 [])⟩
def zfq(a:Bool)(b:au):State:=⟨uS 1 ([.ptr 2 cw []]::uS 9 ([tB a]::uS 61 [])),nS 2 ((some ⟨cw,b,[]⟩)::nS 71 [])⟩
def zz3:KX R:=(zj 2 (aU z93 (qV R) kk (sub [1,1,1,1,1,1,1] (cd Tryz.f55)) (aS z93 Tryz.f55.results.toList none K)))
theorem alq(a b:Int)(c:au)(d:aT):UG R kk (k+1) J a b c d=
 Qs a b c d (fun a0 a1 a2 a3 a4=>J .ret (zfn a0 a1 a2 a3 a4)) (UG R kk k J) (fun a0 a1=>J (.exit 0) (zfo a0 a1)):=by kernel_rfl
theorem aeY(a b c:Int)(d:au)(e:aT):zz2 R kk K .ret (zfn a b c d e)=
 zz4 a b c d e (fun a0 a1 a2=>K [tI a0,tI a1,tI a2] none):=by kernel_rfl
theorem aeZ(a:au)(b:aT):zz2 R kk K (.exit 0) (zfo a b)=
 UJ a b (UH R kk kk (zz3 R kk K)):=by kernel_rfl
theorem alr(a:Bool)(b:al)(c d:Int)(e:au)(f:aT):UH R kk (k+1) J a b c d e f=
 Qt a b c d e f (fun a0 a1 a2 a3 a4=>J .ret (zfp a0 a1 a2 a3 a4)) (UH R kk k J) (fun a0 a1=>J (.exit 2) (zfq a0 a1)):=by kernel_rfl
theorem ae0(a b c:Int)(d:Bool)(e:au):zz3 R kk K .ret (zfp a b c d e)=
 zz5 a b c d e (fun a0 a1 a2=>K [tI a0,tI a1,tI a2] none):=by kernel_rfl
theorem ae1(a:Bool)(b:au):zz3 R kk K (.exit 2) (zfq a b)=
 UK a b (fun a0 a1 a2=>K [tI a0,tI a1,tI a2] none):=by kernel_rfl
theorem ain{kk:Nat}(hF:kk=ai)(t33 t34:Int)(cZ:au)(l4:aT):UG R kk k J t33 t34 cZ l4=(Fq k t33 t34 cZ l4).bind fun e=>(Sum.elim (fun(we:(Int×Int×Int×au×aT))=>J .ret (zfn we.1 we.2.1 we.2.2.1 we.2.2.2.1 we.2.2.2.2)) (fun(we:(au×aT))=>J (.exit 0) (zfo we.1 we.2)) e):=by
 induction k generalizing t33 t34 cZ l4 with
 |zero=>rfl
 |succ k ih=>
  rw[alq]
  simp only[Fq,Qs,ih,aD]
theorem aio{kk:Nat}(hF:kk=ai)(t11:Bool)(t46:al)(t47 t48:Int)(cZ:au)(l4:aT):UH R kk k J t11 t46 t47 t48 cZ l4=(Fs k t11 t46 t47 t48 cZ l4).bind fun e=>(Sum.elim (fun(we:(Int×Int×Int×Bool×au))=>J .ret (zfp we.1 we.2.1 we.2.2.1 we.2.2.2.1 we.2.2.2.2)) (fun(we:(Bool×au))=>J (.exit 2) (zfq we.1 we.2)) e):=by
 induction k generalizing t11 t46 t47 t48 cZ l4 with
 |zero=>rfl
 |succ k ih=>
  rw[alr]
  simp only[Fs,Qt,ih,aD]
def wO:ah:=qV.add 55 [cw] (cO cw td (fun _ r K=>K [tI r.1,tI r.2.1,tI r.2.2] none))
theorem o66:aP Tryz.prog wO:=cP z93 Tryz.f55 (fun R kk x0 K=>UI x0 (fun a0 a1 a2=>K [tI a0,tI a1,tI a2] none) (UG R kk kk (zz2 R kk K))) o65 (ek _ _ _ _) Tryz.func55 (by kernel_rfl) rfl (fun _ _ _ _ _ _ h=>h _ _) (fun _ _ _ _=>by kernel_rfl) fun R kk e x0 K=>by
 simp only[td,UI,zz4,UJ,zz5,UK,ain (hF:=e),aio (hF:=e),aeY,aeZ,ae0,ae1,aD,<-e]
def pa:Env:=b9.env (fun i=>bif Nat.beq i 2 then [6] else []) (fun i=>bif Nat.beq i 2 then [2] else []) [] [.str]
def W9(a:mT):Option R:=aB (ev pa (wO R) kk (sub [1,0,1,0,0] (cd Tryz.f205))) [6] [2] k ⟨uS 6 ([.ptr 7 (.aG .iter .unit .unit) []]::uS 9 []),nS 7 ((some ⟨(.aG .iter .unit .unit),a,[]⟩)::nS 9 [])⟩ J
def zpf(a:Bool):State:=⟨uS 2 ([tB a]::uS 13 []),nS 17 []⟩
def zpg:State:=⟨uS 16 [],nS 17 []⟩
def DO:KX R:=(zj 0 (aU pa (wO R) kk (sub [1,1] (cd Tryz.f205)) (aS pa Tryz.f205.results.toList none K)))
theorem anX(a:mT):W9 R kk (k+1) J a=
 Xb a (fun a0=>J .ret (zpf a0)) (W9 R kk k J) (J (.exit 0) (zpg)):=by kernel_rfl
theorem aiO(a:Bool):DO R kk K .ret (zpf a)=
 DP a (fun a0=>K [tB a0] none):=by kernel_rfl
theorem aiP:DO R kk K (.exit 0) (zpg)=
 DQ (fun a0=>K [tB a0] none):=by kernel_rfl
theorem alR{kk:Nat}(hF:kk=ai)(j6:mT):W9 R kk k J j6=(Ha k j6).bind fun e=>(Sum.elim (fun(we:Bool)=>J .ret (zpf we)) (fun(we:Unit)=>J (.exit 0) (zpg)) e):=by
 induction k generalizing j6 with
 |zero=>rfl
 |succ k ih=>
  rw[anX]
  simp only[Ha,Xb,ih,aD]
def Jf:ah:=wO.add 205 [.str] (cO .str yq (fun _ r K=>K [tB r] none))
theorem o67:aP Tryz.prog Jf:=cP pa Tryz.f205 (fun R kk x0 K=>Xa x0 (W9 R kk kk (DO R kk K))) o66 (ek _ _ _ _) Tryz.func205 (by kernel_rfl) rfl (fun _ _ _ _ _ _ h=>h _ _) (fun _ _ _ _=>by kernel_rfl) fun R kk e x0 K=>by
 simp only[yq,Xa,DP,DQ,alR (hF:=e),aiO,aiP,aD,<-e]
def anq:Env:=e0 [.str]
def Jg:ah:=Jf.add 154 [.str] (cO .str n3 (fun _ r K=>K [tB r] none))
theorem o68:aP Tryz.prog Jg:=cP anq Tryz.f154 (fun R kk x0 K=>Ux x0 (fun a0=>K [tB a0] none)) o67 (ek _ _ _ _) Tryz.func154 (by kernel_rfl) rfl (fun _ _ _ _ _ _ h=>h _ _) (fun _ _ _ _=>by kernel_rfl) fun R kk e x0 K=>by
 simp only[n3,Ux,aD]
def anr:Env:=e0 [.str]
def Jh:ah:=Jg.add 101 [.str] (cO .str jw (fun _ r K=>K [tI r.1,tB r.2] none))
theorem o69:aP Tryz.prog Jh:=cP anr Tryz.f101 (fun R kk x0 K=>Uy x0 (fun a0 a1=>K [tI a0,tB a1] none)) o68 (ek _ _ _ _) Tryz.func101 (by kernel_rfl) rfl (fun _ _ _ _ _ _ h=>h _ _) (fun _ _ _ _=>by kernel_rfl) fun R kk e x0 K=>by
 simp only[jw,Uy,aD]
def ano:Env:=e0 [.str]
def Ji:ah:=Jh.add 102 [.str] (cO .str n0 (fun _ r K=>K [tB r] none))
theorem o70:aP Tryz.prog Ji:=cP ano Tryz.f102 (fun R kk x0 K=>Uv x0 (fun a0=>K [tB a0] none)) o69 (ek _ _ _ _) Tryz.func102 (by kernel_rfl) rfl (fun _ _ _ _ _ _ h=>h _ _) (fun _ _ _ _=>by kernel_rfl) fun R kk e x0 K=>by
 simp only[n0,Uv,aD]
def anY:Env:=e0 [(.pair .str (.pair .str .unit)),aK,aK]
def Jj:ah:=Ji.add 72 [(.pair .str (.pair .str .unit)),aK,aK] (kH (.pair .str (.pair .str .unit)) aK aK n9 (fun _ r K=>K [tB r] none))
theorem o71:aP Tryz.prog Jj:=kW anY Tryz.f72 (fun R kk x0 x1 x2 K=>VU x0 x1 x2 (fun a0=>K [tB a0] none)) o70 (ek _ _ _ _) Tryz.func72 (by kernel_rfl) rfl (fun _ _ _ _ _ _ h=>h _ _) (fun _ _ _ _ _ _=>by kernel_rfl) fun R kk e x0 x1 x2 K=>by
 simp only[n9,VU,aD]
def anF:Env:=b9.env (fun _=>[]) (fun _=>[]) [6,7] [cA,aK,aK]
def Jk:ah:=Jj.add 103 [cA,aK,aK] (kH cA aK aK tj (fun _ r K=>K [.ak cK r.1 [],.ak cK r.2.1 [],tI r.2.2] none))
theorem o72:aP Tryz.prog Jk:=kW anF Tryz.f103 (fun R kk x0 x1 x2 K=>UZ x0 x1 x2 (fun a0 a1 a2=>K [.ak cK a0 [],.ak cK a1 [],tI a2] none)) o71 (ek _ _ _ _) Tryz.func103 (by kernel_rfl) rfl (fun _ _ _ _ _ _ h=>h _ _) (fun _ _ _ _ _ _=>by kernel_rfl) fun R kk e x0 x1 x2 K=>by
 simp only[tj,UZ,aD]
def HD:Env:=e0 [(.int .i64),(.int .i64)]
def Jl:ah:=Jk.add 206 [(.int .i64),(.int .i64)] (dp (.int .i64) (.int .i64) HC (fun _ r K=>K [tB r] none))
theorem o73:aP Tryz.prog Jl:=dx HD Tryz.f206 (fun R kk x0 x1 K=>WL x0 x1 (fun a0=>K [tB a0] none)) o72 (ek _ _ _ _) Tryz.func206 (by kernel_rfl) rfl (fun _ _ _ _ _ _ h=>h _ _) (fun _ _ _ _ _=>by kernel_rfl) fun R kk e x0 x1 K=>by
 simp only[HC,WL,aD]
def anN:Env:=e0 [(.int .i64),(.int .i64)]
def Jm:ah:=Jl.add 155 [(.int .i64),(.int .i64)] (dp (.int .i64) (.int .i64) vU (fun _ r K=>K [tB r] none))
theorem o74:aP Tryz.prog Jm:=dx anN Tryz.f155 (fun R kk x0 x1 K=>Vj x0 x1 (fun a0=>K [tB a0] none)) o73 (ek _ _ _ _) Tryz.func155 (by kernel_rfl) rfl (fun _ _ _ _ _ _ h=>h _ _) (fun _ _ _ _ _=>by kernel_rfl) fun R kk e x0 x1 K=>by
 simp only[vU,Vj,aD]
def anM:Env:=e0 [cK,cK]
def Jn:ah:=Jm.add 104 [cK,cK] (dp cK cK lS (fun _ r K=>K [tB r] none))
theorem o75:aP Tryz.prog Jn:=dx anM Tryz.f104 (fun R kk x0 x1 K=>Vi x0 x1 (fun a0=>K [tB a0] none)) o74 (ek _ _ _ _) Tryz.func104 (by kernel_rfl) rfl (fun _ _ _ _ _ _ h=>h _ _) (fun _ _ _ _ _=>by kernel_rfl) fun R kk e x0 x1 K=>by
 simp only[lS,Vi,aD]
def anG:Env:=e0 [cK]
def wP:ah:=Jn.add 105 [cK] (cO cK jx (fun _ r K=>K [tB r] none))
theorem o76:aP Tryz.prog wP:=cP anG Tryz.f105 (fun R kk x0 K=>U0 x0 (fun a0=>K [tB a0] none)) o75 (ek _ _ _ _) Tryz.func105 (by kernel_rfl) rfl (fun _ _ _ _ _ _ h=>h _ _) (fun _ _ _ _=>by kernel_rfl) fun R kk e x0 K=>by
 simp only[jx,U0,aD]
def oZ:Env:=b9.env (fun i=>bif Nat.beq i 5 then [4,10,11,12,13] else []) (fun i=>bif Nat.beq i 5 then [2,3] else []) [] [(.sl 109 (.pair .str (.pair .str .unit)))]
def W4(a:aO)(b c:Int)(d:io):Option R:=aB (ev oZ (wP R) kk (sub [1,1,1,0,1,0,0] (cd Tryz.f156))) [4,10,11,12,13] [2,3] k ⟨uS 4 ([.ptr 11 (.aG .mp .str .bool) []]::uS 5 ([.ptr 11 (.aG .mp .str .bool) []]::[.ak (.sl 109 (.pair .str (.pair .str .unit))) a []]::[tI b]::[tI c]::uS 13 [])),nS 11 ((some ⟨(.aG .mp .str .bool),d,[]⟩)::nS 16 [])⟩ J
def zpd(a b:Int):State:=⟨uS 2 ([tI a]::[tI b]::uS 23 []),nS 28 []⟩
def zpe:State:=⟨uS 27 [],nS 28 []⟩
def z159:KX R:=(zj 0 (aU oZ (wP R) kk (sub [1,1,1,1] (cd Tryz.f156)) (aS oZ Tryz.f156.results.toList none K)))
theorem anU(a:aO)(b c:Int)(d:io):W4 R kk (k+1) J a b c d=
 DL a b c d (fun a0 a1=>J .ret (zpd a0 a1)) (W4 R kk k J) (J (.exit 0) (zpe)):=by kernel_rfl
theorem aiE(a b:Int):z159 R kk K .ret (zpd a b)=
 DM a b (fun a0 a1=>K [tI a0,tI a1] none):=by kernel_rfl
theorem aiF:z159 R kk K (.exit 0) (zpe)=
 DN (fun a0 a1=>K [tI a0,tI a1] none):=by kernel_rfl
theorem alI{kk:Nat}(hF:kk=ai)(t11:aO)(t12 t13:Int)(cQ:io):W4 R kk k J t11 t12 t13 cQ=(QZ k t11 t12 t13 cQ).bind fun e=>(Sum.elim (fun(we:(Int×Int))=>J .ret (zpd we.1 we.2)) (fun(we:Unit)=>J (.exit 0) (zpe)) e):=by
 induction k generalizing t11 t12 t13 cQ with
 |zero=>rfl
 |succ k ih=>
  rw[anU]
  simp only[QZ,DL,ih,aD]
def wQ:ah:=wP.add 156 [(.sl 109 (.pair .str (.pair .str .unit)))] (cO (.sl 109 (.pair .str (.pair .str .unit))) HI (fun _ r K=>K [tI r.1,tI r.2] none))
theorem o77:aP Tryz.prog wQ:=cP oZ Tryz.f156 (fun R kk x0 K=>W5 x0 (fun a0 a1=>K [tI a0,tI a1] none) (W4 R kk kk (z159 R kk K))) o76 (ek _ _ _ _) Tryz.func156 (by kernel_rfl) rfl (fun _ _ _ _ _ _ h=>h _ _) (fun _ _ _ _=>by kernel_rfl) fun R kk e x0 K=>by
 simp only[HI,W5,DM,DN,alI (hF:=e),aiE,aiF,aD,<-e]
def WO:Env:=b9.env (fun i=>bif Nat.beq i 5 then [4,5,25,26,27] else []) (fun i=>bif Nat.beq i 5 then [6] else []) [] [(.sl 109 (.pair .str (.pair .str .unit))),cK,cK]
def U1(a:aO)(b c:Int)(d e:aT):Option R:=aB (ev WO (wQ R) kk (sub [1,1,0,1,0,0] (cd Tryz.f106))) [4,5,25,26,27] [6] k ⟨uS 4 ([.ptr 5 cK []]::[.ptr 6 cK []]::uS 19 ([.ak (.sl 109 (.pair .str (.pair .str .unit))) a []]::[tI b]::[tI c]::uS 18 [])),nS 5 ((some ⟨cK,d,[]⟩)::(some ⟨cK,e,[]⟩)::nS 40 [])⟩ J
def zfx(a:Int):State:=⟨uS 6 ([tI a]::uS 39 []),nS 47 []⟩
def zfy:State:=⟨uS 46 [],nS 47 []⟩
def zzf:KX R:=(zj 0 (aU WO (wQ R) kk (sub [1,1,1] (cd Tryz.f106)) (aS WO Tryz.f106.results.toList none K)))
theorem alw(a:aO)(b c:Int)(d e:aT):U1 R kk (k+1) J a b c d e=
 zzg a b c d e (fun a0=>J .ret (zfx a0)) (U1 R kk k J) (J (.exit 0) (zfy)):=by kernel_rfl
theorem ae8(a:Int):zzf R kk K .ret (zfx a)=
 zzh a (fun a0=>K [tI a0] none):=by kernel_rfl
theorem ae9:zzf R kk K (.exit 0) (zfy)=
 zzi (fun a0=>K [tI a0] none):=by kernel_rfl
theorem ais{kk:Nat}(hF:kk=ai)(t25:aO)(t26 t27:Int)(cQ du:aT):U1 R kk k J t25 t26 t27 cQ du=(Qv k t25 t26 t27 cQ du).bind fun e=>(Sum.elim (fun(we:Int)=>J .ret (zfx we)) (fun(we:Unit)=>J (.exit 0) (zfy)) e):=by
 induction k generalizing t25 t26 t27 cQ du with
 |zero=>rfl
 |succ k ih=>
  rw[alw]
  simp only[Qv,zzg,ih,aD]
def Jo:ah:=wQ.add 106 [(.sl 109 (.pair .str (.pair .str .unit))),cK,cK] (kH (.sl 109 (.pair .str (.pair .str .unit))) cK cK mL (fun _ r K=>K [tI r] none))
theorem o78:aP Tryz.prog Jo:=kW WO Tryz.f106 (fun R kk x0 x1 x2 K=>U2 x0 x1 x2 (fun a0=>K [tI a0] none) (U1 R kk kk (zzf R kk K))) o77 (ek _ _ _ _) Tryz.func106 (by kernel_rfl) rfl (fun _ _ _ _ _ _ h=>h _ _) (fun _ _ _ _ _ _=>by kernel_rfl) fun R kk e x0 x1 x2 K=>by
 simp only[mL,U2,zzh,zzi,ais (hF:=e),ae8,ae9,aD,<-e]
def anE:Env:=e0 [cA,aK,aK]
def Jp:ah:=Jo.add 73 [cA,aK,aK] (kH cA aK aK n5 (fun _ r K=>K [tI r] none))
theorem o79:aP Tryz.prog Jp:=kW anE Tryz.f73 (fun R kk x0 x1 x2 K=>UY x0 x1 x2 (fun a0=>K [tI a0] none)) o78 (ek _ _ _ _) Tryz.func73 (by kernel_rfl) rfl (fun _ _ _ _ _ _ h=>h _ _) (fun _ _ _ _ _ _=>by kernel_rfl) fun R kk e x0 x1 x2 K=>by
 simp only[n5,UY,aD]
def HU:Env:=b9.env (fun _=>[]) (fun _=>[]) [2] [(.int .i64)]
def Jq:ah:=Jp.add 157 [(.int .i64)] (cO (.int .i64) FQ (fun _ r K=>K [.ak (.pair (.int .u64) (.pair (.int .u64) .unit)) r []] none))
theorem o80:aP Tryz.prog Jq:=cP HU Tryz.f157 (fun R kk x0 K=>Xq x0 (fun a0=>K [.ak (.pair (.int .u64) (.pair (.int .u64) .unit)) a0 []] none)) o79 (ek _ _ _ _) Tryz.func157 (by kernel_rfl) rfl (fun _ _ _ _ _ _ h=>h _ _) (fun _ _ _ _=>by kernel_rfl) fun R kk e x0 K=>by
 simp only[FQ,Xq,aD]
def HO:Env:=b9.env (fun _=>[]) (fun _=>[]) [4] [(.pair (.int .u64) (.pair (.int .u64) .unit)),(.pair (.int .u64) (.pair (.int .u64) .unit))]
def Jr:ah:=Jq.add 76 [(.pair (.int .u64) (.pair (.int .u64) .unit)),(.pair (.int .u64) (.pair (.int .u64) .unit))] (dp (.pair (.int .u64) (.pair (.int .u64) .unit)) (.pair (.int .u64) (.pair (.int .u64) .unit)) tF (fun _ r K=>K [.ak (.pair (.int .u64) (.pair (.int .u64) .unit)) r []] none))
theorem o81:aP Tryz.prog Jr:=dx HO Tryz.f76 (fun R kk x0 x1 K=>Xm x0 x1 (fun a0=>K [.ak (.pair (.int .u64) (.pair (.int .u64) .unit)) a0 []] none)) o80 (ek _ _ _ _) Tryz.func76 (by kernel_rfl) rfl (fun _ _ _ _ _ _ h=>h _ _) (fun _ _ _ _ _=>by kernel_rfl) fun R kk e x0 x1 K=>by
 simp only[tF,Xm,aD]
def HT:Env:=b9.env (fun _=>[]) (fun _=>[]) [4] [(.pair (.int .u64) (.pair (.int .u64) .unit)),(.int .i64)]
def wR:ah:=Jr.add 107 [(.pair (.int .u64) (.pair (.int .u64) .unit)),(.int .i64)] (dp (.pair (.int .u64) (.pair (.int .u64) .unit)) (.int .i64) yt (fun _ r K=>K [.ak (.pair (.int .u64) (.pair (.int .u64) .unit)) r []] none))
theorem o82:aP Tryz.prog wR:=dx HT Tryz.f107 (fun R kk x0 x1 K=>Xp x0 x1 (fun a0=>K [.ak (.pair (.int .u64) (.pair (.int .u64) .unit)) a0 []] none)) o81 (ek _ _ _ _) Tryz.func107 (by kernel_rfl) rfl (fun _ _ _ _ _ _ h=>h _ _) (fun _ _ _ _ _=>by kernel_rfl) fun R kk e x0 x1 K=>by
 simp only[yt,Xp,aD]
def pf:Env:=b9.env (fun i=>bif Nat.beq i 3 then [2,3,6,7,8] else []) (fun i=>bif Nat.beq i 3 then [2,3] else []) [2] [(.sl 3 (.int .i64))]
def Xj(a:(List Int))(b c:Int)(d e:aR):Option R:=aB (ev pf (wR R) kk (sub [1,1,0,1,0,0] (cd Tryz.f74))) [2,3,6,7,8] [2,3] k ⟨uS 2 ([.ptr 3 (.pair (.int .u64) (.pair (.int .u64) .unit)) []]::[.ptr 4 (.pair (.int .u64) (.pair (.int .u64) .unit)) []]::uS 2 ([.ak (.sl 3 (.int .i64)) a []]::[tI b]::[tI c]::uS 8 [])),nS 3 ((some ⟨(.pair (.int .u64) (.pair (.int .u64) .unit)),d,[]⟩)::(some ⟨(.pair (.int .u64) (.pair (.int .u64) .unit)),e,[]⟩)::nS 13 [])⟩ J
def zpj(a b:aR):State:=⟨uS 2 ([.ptr 3 (.pair (.int .u64) (.pair (.int .u64) .unit)) []]::[.ptr 4 (.pair (.int .u64) (.pair (.int .u64) .unit)) []]::uS 13 []),nS 3 ((some ⟨(.pair (.int .u64) (.pair (.int .u64) .unit)),a,[]⟩)::(some ⟨(.pair (.int .u64) (.pair (.int .u64) .unit)),b,[]⟩)::nS 13 [])⟩
def OZ:KX R:=(zj 0 (aU pf (wR R) kk (sub [1,1,1] (cd Tryz.f74)) (aS pf Tryz.f74.results.toList none K)))
theorem an1(a:(List Int))(b c:Int)(d e:aR):Xj R kk (k+1) J a b c d e=
 Rb a b c d e (Xj R kk k J) (fun a0 a1=>J (.exit 0) (zpj a0 a1)):=by kernel_rfl
theorem aiS(a b:aR):OZ R kk K (.exit 0) (zpj a b)=
 Xl a b (fun a0=>K [.ak (.pair (.int .u64) (.pair (.int .u64) .unit)) a0 []] none):=by kernel_rfl
theorem alU{kk:Nat}(hF:kk=ai)(t6:(List Int))(t7 t8:Int)(df dH:aR):Xj R kk k J t6 t7 t8 df dH=(Bl k t6 t7 t8 df dH).bind fun e=>J (.exit 0) (zpj e.1 e.2):=by
 induction k generalizing t6 t7 t8 df dH with
 |zero=>rfl
 |succ k ih=>
  rw[an1]
  simp only[Bl,Rb,ih,aD]
def Js:ah:=wR.add 74 [(.sl 3 (.int .i64))] (cO (.sl 3 (.int .i64)) vf (fun _ r K=>K [.ak (.pair (.int .u64) (.pair (.int .u64) .unit)) r []] none))
theorem o83:aP Tryz.prog Js:=cP pf Tryz.f74 (fun R kk x0 K=>Xk x0 (Xj R kk kk (OZ R kk K))) o82 (ek _ _ _ _) Tryz.func74 (by kernel_rfl) rfl (fun _ _ _ _ _ _ h=>h _ _) (fun _ _ _ _=>by kernel_rfl) fun R kk e x0 K=>by
 simp only[vf,Xk,Xl,alU (hF:=e),aiS,aD,<-e]
def HN:Env:=b9.env (fun _=>[]) (fun _=>[]) [4] [(.pair (.int .u64) (.pair (.int .u64) .unit)),(.pair (.int .u64) (.pair (.int .u64) .unit))]
def mS:ah:=Js.add 75 [(.pair (.int .u64) (.pair (.int .u64) .unit)),(.pair (.int .u64) (.pair (.int .u64) .unit))] (dp (.pair (.int .u64) (.pair (.int .u64) .unit)) (.pair (.int .u64) (.pair (.int .u64) .unit)) rV (fun _ r K=>K [.ak (.pair (.int .u64) (.pair (.int .u64) .unit)) r []] none))
theorem o84:aP Tryz.prog mS:=dx HN Tryz.f75 (fun R kk x0 x1 K=>Rc x0 x1 (fun a0=>K [.ak (.pair (.int .u64) (.pair (.int .u64) .unit)) a0 []] none)) o83 (ek _ _ _ _) Tryz.func75 (by kernel_rfl) rfl (fun _ _ _ _ _ _ h=>h _ _) (fun _ _ _ _ _=>by kernel_rfl) fun R kk e x0 x1 K=>by
 simp only[rV,Rc,aD]
def vG:Env:=b9.env (fun i=>bif Nat.beq i 2 then [3,4,5,26,27,28] else bif Nat.beq i 12 then [3,4,5,13,46,48,49,50] else bif Nat.beq i 24 then [4,5,16,17,77,78,79] else []) (fun i=>bif Nat.beq i 2 then [3,4,5,6,7,8] else bif Nat.beq i 12 then [3,4,5,6,7,8] else bif Nat.beq i 24 then [6,7,8] else []) [] [cD,aK,aK]
def VF(a:oe)(b c:Int)(d:ay)(e f:af):Option R:=aB (ev vG (mS R) kk (sub [1,0,1,0,0] (cd Tryz.f56))) [3,4,5,26,27,28] [3,4,5,6,7,8] k ⟨uS 3 ([.ptr 4 cD []]::[.ptr 5 aK []]::[.ptr 6 aK []]::uS 20 ([.ak (.sl 24 aK) a [[]]]::[tI b]::[tI c]::uS 92 [])),nS 4 ((some ⟨cD,d,[]⟩)::(some ⟨aK,e,[]⟩)::(some ⟨aK,f,[]⟩)::nS 115 [])⟩ J
def zgi(a b c:Int)(d:ay)(e f:af):State:=⟨uS 3 ([.ptr 4 cD []]::[.ptr 5 aK []]::[.ptr 6 aK []]::[tI a]::[tI b]::[tI c]::uS 112 []),nS 4 ((some ⟨cD,d,[]⟩)::(some ⟨aK,e,[]⟩)::(some ⟨aK,f,[]⟩)::nS 115 [])⟩
def zgj(a:ay)(b c:af):State:=⟨uS 3 ([.ptr 4 cD []]::[.ptr 5 aK []]::[.ptr 6 aK []]::uS 115 []),nS 4 ((some ⟨cD,a,[]⟩)::(some ⟨aK,b,[]⟩)::(some ⟨aK,c,[]⟩)::nS 115 [])⟩
def CY:KX R:=(zj 0 (aU vG (mS R) kk (sub [1,1] (cd Tryz.f56)) (aS vG Tryz.f56.results.toList none K)))
def VG(a:aO)(b c:Int)(d:ay)(e f:af)(g:io):Option R:=aB (ev vG (mS R) kk (sub [1,1,1,1,0,1,0,0] (cd Tryz.f56))) [3,4,5,13,46,48,49,50] [3,4,5,6,7,8] k ⟨uS 3 ([.ptr 4 cD []]::[.ptr 5 aK []]::[.ptr 6 aK []]::uS 7 ([.ptr 47 (.aG .mp .str .bool) []]::uS 32 ([.ptr 47 (.aG .mp .str .bool) []]::uS 1 ([.ak (.sl 109 (.pair .str (.pair .str .unit))) a []]::[tI b]::[tI c]::uS 70 [])))),nS 4 ((some ⟨cD,d,[]⟩)::(some ⟨aK,e,[]⟩)::(some ⟨aK,f,[]⟩)::nS 40 ((some ⟨(.aG .mp .str .bool),g,[]⟩)::nS 74 []))⟩ J
def zgk(a b c:Int)(d:ay)(e f:af):State:=⟨uS 3 ([.ptr 4 cD []]::[.ptr 5 aK []]::[.ptr 6 aK []]::[tI a]::[tI b]::[tI c]::uS 112 []),nS 4 ((some ⟨cD,d,[]⟩)::(some ⟨aK,e,[]⟩)::(some ⟨aK,f,[]⟩)::nS 115 [])⟩
def zgl(a:ay)(b c:af):State:=⟨uS 3 ([.ptr 4 cD []]::[.ptr 5 aK []]::[.ptr 6 aK []]::uS 115 []),nS 4 ((some ⟨cD,a,[]⟩)::(some ⟨aK,b,[]⟩)::(some ⟨aK,c,[]⟩)::nS 115 [])⟩
def CZ:KX R:=(zj 2 (aU vG (mS R) kk (sub [1,1,1,1,1] (cd Tryz.f56)) (aS vG Tryz.f56.results.toList none K)))
def VH(a:bT)(b c:Int)(d e:af)(f g:aR):Option R:=aB (ev vG (mS R) kk (sub [1,1,1,1,1,1,1,0,1,0,0] (cd Tryz.f56))) [4,5,16,17,77,78,79] [6,7,8] k ⟨uS 4 ([.ptr 5 aK []]::[.ptr 6 aK []]::uS 10 ([.ptr 17 (.pair (.int .u64) (.pair (.int .u64) .unit)) []]::[.ptr 18 (.pair (.int .u64) (.pair (.int .u64) .unit)) []]::uS 59 ([.ak (.sl 102 cA) a []]::[tI b]::[tI c]::uS 41 []))),nS 5 ((some ⟨aK,d,[]⟩)::(some ⟨aK,e,[]⟩)::nS 10 ((some ⟨(.pair (.int .u64) (.pair (.int .u64) .unit)),f,[]⟩)::(some ⟨(.pair (.int .u64) (.pair (.int .u64) .unit)),g,[]⟩)::nS 103 []))⟩ J
def zgm(a b c:Int):State:=⟨uS 6 ([tI a]::[tI b]::[tI c]::uS 112 []),nS 122 []⟩
def zgn:State:=⟨uS 121 [],nS 122 []⟩
def C1:KX R:=(zj 5 (aU vG (mS R) kk (sub [1,1,1,1,1,1,1,1] (cd Tryz.f56)) (aS vG Tryz.f56.results.toList none K)))
theorem alK(a:oe)(b c:Int)(d:ay)(e f:af):VF R kk (k+1) J a b c d e f=
 VJ a b c d e f (fun a0 a1 a2 a3 a4 a5=>J .ret (zgi a0 a1 a2 a3 a4 a5)) (VF R kk k J) (fun a0 a1 a2=>J (.exit 0) (zgj a0 a1 a2)):=by kernel_rfl
theorem afr(a b c:Int)(d:ay)(e f:af):CY R kk K .ret (zgi a b c d e f)=
 C2 a b c d e f (fun a0 a1 a2=>K [tI a0,tI a1,tI a2] none):=by kernel_rfl
theorem afs(a:ay)(b c:af):CY R kk K (.exit 0) (zgj a b c)=
 VK a b c (fun a0 a1 a2=>K [tI a0,tI a1,tI a2] none) (VG R kk kk (CZ R kk K)):=by kernel_rfl
theorem alL(a:aO)(b c:Int)(d:ay)(e f:af)(g:io):VG R kk (k+1) J a b c d e f g=
 C3 a b c d e f g (fun a0 a1 a2 a3 a4 a5=>J .ret (zgk a0 a1 a2 a3 a4 a5)) (VG R kk k J) (fun a0 a1 a2=>J (.exit 2) (zgl a0 a1 a2)):=by kernel_rfl
theorem afu(a b c:Int)(d:ay)(e f:af):CZ R kk K .ret (zgk a b c d e f)=
 C4 a b c d e f (fun a0 a1 a2=>K [tI a0,tI a1,tI a2] none):=by kernel_rfl
theorem afv(a:ay)(b c:af):CZ R kk K (.exit 2) (zgl a b c)=
 VL a b c (fun a0 a1 a2=>K [tI a0,tI a1,tI a2] none) (VH R kk kk (C1 R kk K)):=by kernel_rfl
end
end Go.Proofs.YtpjkbbihjoflnaaGreatDoor

