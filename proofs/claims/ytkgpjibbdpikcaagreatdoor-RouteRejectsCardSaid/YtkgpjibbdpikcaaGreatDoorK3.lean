/- No condition. -/
import Derived.Test.YtkgpjibbdpikcaaGreatDoorK2
set_option linter.unusedVariables false
set_option linter.unusedSimpArgs false
set_option maxRecDepth 100000
namespace bn
open Go.IntKind renaming wrap->zW,i64->zI,u8->zU
open Go Go.Ref
@[irreducible] def rL (x:ByteArray):Int:=((vJ x).map fun r=>Sum.elim (fun(w:aq×Int×Int)=>w.2.1) (fun(w:aq×Int×Int)=>w.2.1) r).getD 0
theorem Aj(s:Spec)(x:ByteArray)(hx:x.size<=1099511627776):aY s x=0↔bc s=0/\s.2.2.2.1<=(x.size:Int)/\(x.size:Int)<=s.2.2.2.2.1/\(bl x).all (iB s.2.1)=true/\(s.2.1=6->rL x=0):=by
 have h:=Bi s x hx
 unfold nC B8 at h
 rw[rR,Option.bind_some,zbf _ _ (by rw[zj];omega),Option.bind_some] at h
 obtain⟨r,hr⟩:=zl9 x hx
 have ht:rL x=Sum.elim (fun(w:aq×Int×Int)=>w.2.1) (fun(w:aq×Int×Int)=>w.2.1) r:=by unfold rL;rw[hr];rfl
 rw[hr,Option.bind_some] at h
 by_cases c1:bc s=0
 ·rw[zT c1,Bool.not_true,zD] at h
  by_cases c2:(x.size:Int)<s.2.2.2.1
  ·rw[zT c2,zC] at h
   have:=Option.some.inj h
   exact⟨fun e=>by omega,fun e=>by omega⟩
  rw[zF c2,zD] at h
  by_cases c3:s.2.2.2.2.1<(x.size:Int)
  ·rw[zT c3,zC] at h
   have:=Option.some.inj h
   exact⟨fun e=>by omega,fun e=>by omega⟩
  rw[zF c3,zD] at h
  have hf:=zkr s.2.1 (bl x) 0 (Int.le_refl _)
  by_cases c4:(0:Int)<=z31 s.2.1 (bl x) 0
  ·rw[zT c4,zC] at h
   have:=Option.some.inj h
   exact⟨fun e=>by omega,fun e=>absurd e.2.2.2.1 (hf.1 c4)⟩
  rw[zF c4,zD] at h
  have dP:(bl x).all (iB s.2.1)=true:=by
   cases hq:(bl x).all (iB s.2.1) with
   |true=>rfl
   |false=>exact absurd (hf.2 (by rw[hq];decide)) c4
  by_cases c5:s.2.1=6
  ·rw[zT c5,zC] at h
   have key:(bif(!decide (rL x=0)) then some (13:Int) else some 0)=some (aY s x):=by
    rw[<-h]
    cases r with
    |inl r=>rw[Sum.elim_inl] at ht⊢;rw[<-ht]
    |inr r=>rw[Sum.elim_inr] at ht⊢;rw[<-ht]
   by_cases c6:rL x=0
   ·rw[zT c6] at key
    have:=Option.some.inj key
    exact⟨fun _=>⟨c1,by omega,by omega,dP,fun _=>c6⟩,fun _=>this.symm⟩
   ·rw[zF c6] at key
    have:=Option.some.inj key
    exact⟨fun e=>by omega,fun e=>absurd (e.2.2.2.2 c5) c6⟩
  ·rw[zF c5,zD] at h
   have:=Option.some.inj h
   exact⟨fun _=>⟨c1,by omega,by omega,dP,fun e=>absurd e c5⟩,fun _=>this.symm⟩
 ·rw[zF c1,Bool.not_false,zC] at h
  have:=Option.some.inj h
  exact⟨fun e=>by omega,fun e=>absurd e.1 c1⟩
theorem Zr(a b:Spec):lW a b=true↔bc a=0/\bc b=0/\a.2.2.2.1<=b.2.2.2.1/\b.2.2.2.2.1<=a.2.2.2.2.1/\(a.2.1=5\/(a.2.1=6/\b.2.1=6)\/(a.2.1≠5/\a.2.1≠6/\b.2.1≠6/\vp a.2.1 b.2.1=true)):=by
 have h:=zq2 a b
 unfold x7 Pb at h
 rw[rR,rR,zbi] at h
 simp only[Option.bind_some] at h
 by_cases c1:bc a=0
 ·rw[zT c1,Bool.not_true,zD] at h
  by_cases c2:bc b=0
  ·rw[zT c2,Bool.not_true,zD] at h
   by_cases c3:b.2.2.2.1<a.2.2.2.1
   ·rw[zT c3,zC] at h
    have:=Option.some.inj h
    exact⟨fun e=>(by rw[e] at this;cases this),fun e=>by omega⟩
   rw[zF c3,zD] at h
   by_cases c4:a.2.2.2.2.1<b.2.2.2.2.1
   ·rw[zT c4,zC] at h
    have:=Option.some.inj h
    exact⟨fun e=>(by rw[e] at this;cases this),fun e=>by omega⟩
   rw[zF c4,zD] at h
   by_cases c5:a.2.1=5
   ·rw[zT c5,zC] at h
    have:=Option.some.inj h
    exact⟨fun _=>⟨c1,c2,by omega,by omega,.inl c5⟩,fun _=>this.symm⟩
   rw[zF c5,zD] at h
   by_cases c6:a.2.1=6
   ·rw[zT c6,zC] at h
    have:=Option.some.inj h
    rw[<-this,decide_eq_true_eq]
    exact⟨fun e=>⟨c1,c2,by omega,by omega,.inr (.inl ⟨c6,by omega⟩)⟩,fun e=>by omega⟩
   rw[zF c6,zD] at h
   by_cases c7:b.2.1=6
   ·rw[zT c7,zC] at h
    have:=Option.some.inj h
    rw[<-this,decide_eq_true_eq]
    exact⟨fun e=>by omega,fun e=>by omega⟩
   rw[zF c7,zD] at h
   have:=Option.some.inj h
   rw[<-this]
   refine⟨fun e=>⟨c1,c2,by omega,by omega,.inr (.inr ⟨c5,c6,c7,e⟩)⟩,fun e=> ?_⟩
   rcases e.2.2.2.2 with e|e|e
   ·exact absurd e c5
   ·exact absurd e.1 c6
   ·exact e.2.2.2
  ·rw[zF c2,Bool.not_false,zC] at h
   have:=Option.some.inj h
   exact⟨fun e=>(by rw[e] at this;cases this),fun e=>absurd e.2.1 c2⟩
 ·rw[zF c1,Bool.not_false,zC] at h
  have:=Option.some.inj h
  exact⟨fun e=>(by rw[e] at this;cases this),fun e=>absurd e.1 c1⟩
theorem zl6{s:Spec}(h:bc s=0):(2<=s.1/\s.1<=128)/\(1<=s.2.1/\s.2.1<=6)/\(1<=s.2.2.1/\s.2.2.1<=3)/\(1<=s.2.2.2.1/\s.2.2.2.1<=s.2.2.2.2.1/\s.2.2.2.2.1<=999)/\(s.2.2.1=1->s.2.2.2.1=s.2.2.2.2.1)/\¬(s.2.2.1=1/\s.2.1=6):=by
 unfold bc at h
 split at h
 ·omega
 split at h
 ·omega
 split at h
 ·omega
 split at h
 ·omega
 split at h
 ·omega
 ·omega
theorem abz:∀a b:Fin 7,vp (a.1:Int) (b.1:Int)=true->a.1≠5->a.1≠6->b.1≠6->(a.1=b.1\/(a.1=3/\(b.1=1\/b.1=2))\/(a.1=4/\(b.1=1\/b.1=2\/b.1=3))):=by decide+kernel
theorem Ws{a b:Int}(h:vp a b=true)(h5:a≠5)(h6:a≠6)(h7:b≠6):a=b\/(a=3/\(b=1\/b=2))\/(a=4/\(b=1\/b=2\/b=3)):=by
 have hr:1<=a/\a<=6/\1<=b/\b<=6:=by
  unfold vp at h
  rw[Bool.and_eq_true,decide_eq_true_eq] at h
  exact h.1
 obtain⟨x,rfl⟩:=Pm ⟨hr.1,hr.2.1⟩
 obtain⟨y,rfl⟩:=Pm ⟨hr.2.2.1,hr.2.2.2⟩
 have:=abz x y h (by omega) (by omega) (by omega)
 omega
theorem YQ{a b x:Int}(h:a=b\/(a=3/\(b=1\/b=2))\/(a=4/\(b=1\/b=2\/b=3)))(hx:iB b x=true):iB a x=true:=by
 rcases h with rfl|⟨rfl,rfl|rfl⟩|⟨rfl,rfl|rfl|rfl⟩
 ·exact hx
 all_goals
  simp [iB] at hx⊢
  omega
theorem YP(x:Int):iB 5 x=true:=by simp [iB]
theorem TN{y x:Spec}{t:ByteArray}(ht:t.size<=1099511627776)(hw:lW y x=true)(hv:aY x t=0):aY y t=0:=by
 obtain⟨w1,w2,w3,w4,w5⟩:=(Zr y x).1 hw
 obtain⟨v1,v2,v3,v4,v5⟩:=(Aj x t ht).1 hv
 refine(Aj y t ht).2 ⟨w1,by omega,by omega,?_,?_⟩
 ·rcases w5 with e|e|e
  ·rw[e,List.all_eq_true];exact fun b _=>YP b
  ·rw[e.1,<-e.2];exact v4
  ·rw[List.all_eq_true] at v4⊢
   exact fun b hb=>YQ (Ws e.2.2.2 e.1 e.2.1 e.2.2.1) (v4 b hb)
 ·intro e6
  rcases w5 with e|e|e
  ·omega
  ·exact v5 e.2
  ·exact absurd e6 e.2.1
theorem abh:iB 1=b9:=by funext b;simp [iB,b9]
theorem GU(l:List Int):l.all (iB 1)=aX l:=by rw[abh];rfl
theorem Hi{t:ByteArray}{w:Int}(h:(eJ t w).2=true):1<=w/\w<=999/\(((eJ t w).1).size:Int)=w/\aX (bl (eJ t w).1)=true:=by
 by_cases hc:1<=t.size/\t.size<=999/\aX (bl t)=true/\1<=w/\w<=999
 ·rw[HW hc] at h⊢
  by_cases h4:(t.size:Int)<=w
  ·rw[zT h4,zC]
   have hd:aX (List.replicate (w-t.size).toNat 48++bl t)=true:=by
    have e:aX (List.replicate (w-t.size).toNat 48++bl t)=(aX (List.replicate (w-t.size).toNat 48)&&aX (bl t)):=List.all_append ..
    have e2:aX (List.replicate (w-t.size).toNat 48)=true:=by
     rw[aX,List.all_eq_true]
     intro x hx
     rw[(List.mem_replicate.1 hx).2];rfl
    rw[e,e2,hc.2.2.1];rfl
   refine⟨hc.2.2.2.1,hc.2.2.2.2,?_,?_⟩
   ·rw[lX,List.length_append,List.length_replicate,zh];omega
   ·rw[pj (zmo hd)];exact hd
  ·rw[zF h4,zD] at h⊢
   cases hz:eN ((bl t).take (t.size-w.toNat)) with
   |false=>rw[hz] at h;cases h
   |true=>
    rw[zC]
    have hd:aX ((bl t).drop (t.size-w.toNat))=true:=by
     rw[aX,List.all_eq_true]
     intro x hx
     exact List.all_eq_true.1 hc.2.2.1 x (List.mem_of_mem_drop hx)
    refine⟨hc.2.2.2.1,hc.2.2.2.2,?_,?_⟩
    ·rw[lX,List.length_drop,zh];omega
    ·rw[pj (zmo hd)];exact hd
 ·rw[Ck hc] at h;cases h
theorem TC{s:Spec}(h:jj s=true):s.2.1=1/\s.2.2.1=1:=by
 unfold jj at h
 rw[Bool.and_eq_true,decide_eq_true_eq,decide_eq_true_eq] at h
 exact h
abbrev mV:aQ:=(0,bs [],())
def fj(r:aS)(b:zf)(t:ByteArray):aQ×Int:=
 bif decide (r.1=1) then((r.2.2.1,t,()),0) else bif decide (r.1=2) then(mV,0) else bif decide (r.1=3) then((r.2.2.1,r.2.2.2.1,()),0)
 else bif decide (r.1=4) then(bif !bq b r.2.2.1 then(mV,9) else bif !(eJ t (aO b r.2.2.1).2.2.2.1).2 then(mV,5) else((r.2.2.1,(eJ t (aO b r.2.2.1).2.2.2.1).1,()),0))
 else bif decide (r.1=5) then(bif !(zx r.2.2.2.2.1 t).2 then(mV,15) else((r.2.2.1,(zx r.2.2.2.2.1 t).1,()),0)) else(mV,1)
theorem Sq(r:aS)(b:zf)(t:ByteArray)(hp:r.2.2.2.2.1.length<=maxLen)(hb:b.2.2.1.length<=maxLen)(ht:t.size<=maxLen):mw r b t=some (fj r b t):=by
 unfold mw Mf fj
 rw[uR b _ hb,Option.bind_some,abB t _ ht,Option.bind_some,zy8 _ _ hp,Option.bind_some]
 generalize decide (r.1=1)=k1
 generalize decide (r.1=2)=k2
 generalize decide (r.1=3)=k3
 generalize decide (r.1=4)=k4
 generalize decide (r.1=5)=k5
 generalize bq b r.2.2.1=h
 generalize eJ t (aO b r.2.2.1).2.2.2.1=p
 generalize zx r.2.2.2.2.1 t=q
 obtain⟨p1,p2⟩:=p
 obtain⟨q1,q2⟩:=q
 cases k1<;>cases k2<;>cases k3<;>cases k4<;>cases k5<;>cases h<;>cases p2<;>cases q2<;>rfl
theorem KY{s:zf}{no:Int}(h:bq s no=true):aO s no∈s.2.2.1/\(aO s no).1=no:=by
 unfold bq at h
 unfold aO
 cases hf:eV s.2.2.1 no with
 |none=>rw[hf] at h;cases h
 |some x=>
  unfold eV at hf
  exact⟨List.mem_of_find?_eq_some hf,by simpa using List.find?_some hf⟩
theorem KP{s:zf}(h:fW s){no:Int}(hh:bq s no=true):bc (aO s no)=0:=h.2.2.2.1 _ (KY hh).1
theorem zbl{l:List bG}{t:ByteArray}(h:(zx l t).2=true):∃p∈l,p.1=t/\(zx l t).1=p.2.1:=by
 unfold zx at h⊢
 cases hf:l.find? fun p=>decide (p.1=t) with
 |none=>rw[hf] at h;cases h
 |some p=>exact⟨p,List.mem_of_find?_eq_some hf,by simpa using List.find?_some hf,rfl⟩
theorem zy3:∀{l:List bG} {x y:Spec},jo l x y=0->∀p∈l,aY x p.1=0/\aY y p.2.1=0
 | [],x,y,h,p,hp=>by cases hp
 |q::l,x,y,h,p,hp=>by
  unfold jo at h
  by_cases h1:aY x q.1=0
  ·rw[zT h1,Bool.not_true,zD] at h
   by_cases h2:aY y q.2.1=0
   ·rw[zT h2,Bool.not_true,zD] at h
    rcases List.mem_cons.1 hp with rfl|hp
    ·exact⟨h1,h2⟩
    ·exact zy3 h p hp
   ·rw[zF h2,Bool.not_false,zC] at h;exact absurd h h2
  ·rw[zF h1,Bool.not_false,zC] at h;exact absurd h h1
theorem KJ{r:aS}{a b:zf}(h:dz r a b=0):(1<=r.1/\r.1<=5)/\eh r a b=false/\lS r=false/\j7 r (aO a r.2.1) (aO b r.2.2.1)=0:=by
 unfold dz at h
 by_cases c1:r.1<1
 ·rw[zT c1] at h;cases h
 by_cases c2:5<r.1
 ·rw[zT c2,Bool.or_true] at h;cases h
 rw[zF c1,zF c2,Bool.or_false,zD] at h
 cases he:eh r a b with
 |true=>rw[he] at h;cases h
 |false=>
  rw[he,zD] at h
  cases ht:lS r with
  |true=>rw[ht] at h;cases h
  |false=>rw[ht,zD] at h;exact⟨by omega,rfl,rfl,h⟩
theorem zfk{r:aS}{a b:zf}(h:eh r a b=false):(r.1=3->r.2.1=0)/\(r.1≠3->bq a r.2.1=true)/\(r.1=2->r.2.2.1=0)/\(r.1≠2->bq b r.2.2.1=true):=by
 unfold eh at h
 rw[Bool.or_eq_false_iff] at h
 obtain⟨h1,h2⟩:=h
 refine⟨fun e=> ?_,fun e=> ?_,fun e=> ?_,fun e=> ?_⟩
 ·rw[zT e,zC] at h1;simpa using h1
 ·rw[zF e,zD] at h1;simpa using h1
 ·rw[zT e,zC] at h2;simpa using h2
 ·rw[zF e,zD] at h2;simpa using h2
theorem z138{r:aS}{a b:zf}{t:ByteArray}(ht:t.size<=1099511627776)(hr:gE r)(hc:dz r a b=0)(hb:fW b)(hv:bq a r.2.1=true->aY (aO a r.2.1) t=0):
 ((fj r b t).2≠0->((r.1=4/\(fj r b t).2=5)\/(r.1=5/\(fj r b t).2=15))/\(fj r b t).1=mV)/\
 ((fj r b t).2=0->(r.1=2->(fj r b t).1=mV)/\(r.1≠2->(fj r b t).1.1=r.2.2.1/\bq b r.2.2.1=true/\aY (aO b r.2.2.1) (fj r b t).1.2.1=0)):=by
 obtain⟨c1,c2,c3,c4⟩:=KJ hc
 obtain⟨e1,e2,e3,e4⟩:=zfk c2
 unfold j7 at c4
 have hk:r.1=1\/r.1=2\/r.1=3\/r.1=4\/r.1=5:=by omega
 unfold fj
 rcases hk with k|k|k|k|k
 ·rw[zT k,zC] at c4⊢
  refine⟨fun h=>absurd rfl h,fun _=>⟨fun e=>by omega,fun _=>⟨rfl,e4 (by omega),?_⟩⟩⟩
  cases hw:lW (aO b r.2.2.1) (aO a r.2.1) with
  |false=>rw[hw] at c4;cases c4
  |true=>exact TN ht hw (hv (e2 (by omega)))
 ·rw[zF (by omega:¬r.1=1),zT k,zD,zC]
  exact⟨fun h=>absurd rfl h,fun _=>⟨fun _=>rfl,fun e=>absurd k e⟩⟩
 ·rw[zF (by omega:¬r.1=1),zT k,zD,zC] at c4
  rw[zF (by omega:¬r.1=1),zF (by omega:¬r.1=2),zT k,zD,zD,zC]
  exact⟨fun h=>absurd rfl h,fun _=>⟨fun e=>by omega,fun _=>⟨rfl,e4 (by omega),c4⟩⟩⟩
 ·rw[zF (by omega:¬r.1=1),zF (by omega:¬r.1=3),zT k,zD,zD,zC] at c4
  rw[zF (by omega:¬r.1=1),zF (by omega:¬r.1=2),zF (by omega:¬r.1=3),zT k,zD,zD,zD,zC,e4 (by omega),Bool.not_true,zD]
  have hy:=KP hb (e4 (by omega))
  have hpd:jj (aO b r.2.2.1)=true:=by
   cases hp:(jj (aO a r.2.1)&&jj (aO b r.2.2.1)) with
   |false=>rw[hp] at c4;cases c4
   |true=>exact(Bool.and_eq_true_iff.1 hp).2
  obtain⟨y1,y2⟩:=TC hpd
  obtain⟨_,_,_,f4,f5,_⟩:=zl6 hy
  cases hp:(eJ t (aO b r.2.2.1).2.2.2.1).2 with
  |false=>exact⟨fun _=>⟨.inl ⟨k,rfl⟩,rfl⟩,fun e=>by cases e⟩
  |true=>
   obtain⟨p1,p2,p3,p4⟩:=Hi hp
   rw[Bool.not_true,zD]
   refine⟨fun h=>absurd rfl h,fun _=>⟨fun e=>by omega,fun _=>⟨rfl,rfl,?_⟩⟩⟩
   have:=f5 y2
   refine(Aj _ _ (by show(eJ t (aO b r.2.2.1).2.2.2.1).1.size<=1099511627776;omega)).2 ⟨hy,?_,?_,?_,fun e=>by omega⟩
   ·show _<=((eJ t (aO b r.2.2.1).2.2.2.1).1.size:Int);omega
   ·show((eJ t (aO b r.2.2.1).2.2.2.1).1.size:Int)<=_;omega
   ·rw[y1,GU];exact p4
 ·rw[zF (by omega:¬r.1=1),zF (by omega:¬r.1=3),zF (by omega:¬r.1=4),zT k,zD,zD,zD,zC] at c4
  rw[zF (by omega:¬r.1=1),zF (by omega:¬r.1=2),zF (by omega:¬r.1=3),zF (by omega:¬r.1=4),zT k,zD,zD,zD,zD,zC]
  unfold Pt at c4
  cases hp:(zx r.2.2.2.2.1 t).2 with
  |false=>exact⟨fun _=>⟨.inr ⟨k,rfl⟩,rfl⟩,fun e=>by cases e⟩
  |true=>
   rw[Bool.not_true,zD]
   refine⟨fun h=>absurd rfl h,fun _=>⟨fun e=>by omega,fun _=>⟨rfl,e4 (by omega),?_⟩⟩⟩
   obtain⟨p,hm,_,hq⟩:=zbl hp
   show aY _ (zx r.2.2.2.2.1 t).1=0
   rw[hq]
   cases hz:(!decide ((JO r.2.2.2.2.1).1=0)||decide ((r.2.2.2.2.1.length:Int)=0)) with
   |true=>rw[hz] at c4;cases c4
   |false=>rw[hz,zD] at c4;exact(zy3 c4 p hm).2
end bn

set_option profiler true
set_option profiler.threshold 2000
namespace bn
open Go.IntKind renaming wrap->zW,i64->zI,u8->zU
open Go Go.Ref
def bK(style c:Int):Int:=if style=2/\c=1 then 1 else if style=1/\(c=5\/c=6) then 2 else 0
def fA(h:Int)(n:Nat):Nat:=if h=1 then(n+1)/2 else if h=2 then 2*n else n
def iU(h:Int)(t:ByteArray)(n:Int):Sum Int ByteArray:=if h=1 then(if(ib t n).2.1=0 then .inr (ib t n).1 else .inl (ib t n).2.1) else if h=2 then(if(jx t).2.2=true then .inr (jx t).1 else .inl 3) else .inr t
def iS(s:Spec)(z:Int):Sum Int ByteArray->ByteArray×Int×Int
 | .inl e=>(bs [],0,e)
 | .inr t=>if aY s t=0 then(t,z,0) else(bs [],0,aY s t)
def od(h:Int)(s:Spec)(b:ByteArray)(n a:Nat):ByteArray×Int×Int:=
 if b.size<a+fA h n then(bs [],0,2) else iS s ((a+fA h n:Nat):Int) (iU h (b.extract a (a+fA h n)) n)
def JF(style:Int)(s:Spec)(b:ByteArray)(at_:Int):Sum Int (Nat×Nat):=
 if s.2.2.1=1 then .inr (s.2.2.2.1.toNat,at_.toNat) else if¬(gC style s.2.2.1 b at_).2.2=0 then .inl (gC style s.2.2.1 b at_).2.2 else
  if(gC style s.2.2.1 b at_).1<s.2.2.2.1\/s.2.2.2.2.1<(gC style s.2.2.1 b at_).1 then .inl 5 else .inr ((gC style s.2.2.1 b at_).1.toNat,(gC style s.2.2.1 b at_).2.1.toNat)
def qC(h:Int)(s:Spec)(b:ByteArray):Sum Int (Nat×Nat)->ByteArray×Int×Int
 | .inl e=>(bs [],0,e)
 | .inr q=>od h s b q.1 q.2
def kP(style:Int)(s:Spec)(b:ByteArray)(at_:Int):ByteArray×Int×Int:=
 if(style=1\/style=2)/\bc s=0/\0<=at_/\at_<=b.size then qC (bK style s.2.1) s b (JF style s b at_) else(bs [],0,1)
theorem Pk(style c:Int):jM style c=some (bK style c):=by
 unfold jM NJ bK
 by_cases h1:style=1<;>by_cases h2:style=2<;>by_cases h3:c=1<;>by_cases h4:c=5<;>by_cases h5:c=6<;>(try(exfalso;omega))<;>simp [h1,h2,h3,h4,h5]
theorem Cj(style c:Int):bK style c=0\/bK style c=1\/bK style c=2:=by
 unfold bK
 split
 ·exact .inr (.inl rfl)
 ·split
  ·exact .inr (.inr rfl)
  ·exact .inl rfl
theorem AD{s:Spec}(h:bc s=0):1<=s.2.1/\s.2.1<=6/\1<=s.2.2.1/\s.2.2.1<=3/\1<=s.2.2.2.1/\s.2.2.2.1<=s.2.2.2.2.1/\s.2.2.2.2.1<=999/\(s.2.2.1=2->s.2.2.2.2.1<=99)/\(s.2.2.1=1->s.2.2.2.1=s.2.2.2.2.1):=by
 unfold bc at h
 split at h
 ·cases h
 split at h
 ·cases h
 split at h
 ·cases h
 split at h
 ·cases h
 refine⟨by omega,by omega,by omega,by omega,by omega,by omega,by omega,fun e=>by omega,fun e=>by omega⟩
theorem FU:∀l:List Int,(dv l).length<=l.length
 | []=>by simp [dv]
 | [a]=>by simp [dv]
 |a::b::r=>by rw[dv,List.length_cons,List.length_cons,List.length_cons];have:=FU r;omega
theorem zkv(s:ByteArray):(jx s).1.size<=s.size:=by
 unfold jx
 split
 ·exact Nat.zero_le _
 ·split
  ·exact Nat.zero_le _
  ·rw[lX,<-zh];exact FU _
theorem zxn{style form:Int}{b:ByteArray}{at_:Int}(h:(gC style form b at_).2.2=0):0<=(gC style form b at_).2.1/\(gC style form b at_).2.1<=b.size:=by
 unfold gC at h⊢
 cases hk:(dk style form&&decide (0<=at_/\at_<=(b.size:Int))) with
 |false=>rw[hk] at h;cases h
 |true=>
  rw[hk] at h
  simp only[zC] at h⊢
  split
  ·exact⟨Int.le_refl _,Int.natCast_nonneg _⟩
  ·rename_i hs
   split
   ·dsimp only;exact⟨by omega,by omega⟩
   ·exact⟨Int.le_refl _,Int.natCast_nonneg _⟩
def iR(iC:Int)(jJ:Spec)(kQ:ByteArray)(n a:Int):Option il:=
 let K:ByteArray->Int->Int->Option il:=fun a0 a1 a2=>some (a0,a1,a2)
 ((jM iC jJ.2.1).bind fun r4=>(bif(decide (r4=(1:Int))) then((Q2 n).bind fun r5=>(bif(decide ((zW zI (((kQ).size:Int)-a))<r5)) then(K (bs []) (0:Int) (2:Int)) else(bif(decide ((0:Int)<=(zW zI (a+r5)))) then(bif(decide ((zW zI (a+r5))<=(((kQ).size:Nat):Int))) then(bif(decide ((0:Int)<=a)) then(bif(decide (a<=((((zW zI (a+r5))).toNat:Nat):Int))) then((jM iC jJ.2.1).bind fun r6=>(bif(decide (r6=(1:Int))) then((Q0 ((kQ).extract (a).toNat ((zW zI (a+r5))).toNat) n).bind fun r7=>(bif(!(decide (r7.2.1=(0:Int)))) then(K (bs []) (0:Int) r7.2.1) else((bz jJ r7.1).bind fun r8=>(bif(!(decide (r8=(0:Int)))) then(K (bs []) (0:Int) r8) else(K r7.1 (zW zI (a+r5)) (0:Int)))))) else(bif(decide (r6=(2:Int))) then((fI ((kQ).extract (a).toNat ((zW zI (a+r5))).toNat)).bind fun r9=>(bif(!r9.2.2) then(K (bs []) (0:Int) (3:Int)) else((bz jJ r9.1).bind fun ju=>(bif(!(decide (ju=(0:Int)))) then(K (bs []) (0:Int) ju) else(K r9.1 (zW zI (a+r5)) (0:Int)))))) else((bz jJ ((kQ).extract (a).toNat ((zW zI (a+r5))).toNat)).bind fun jl=>(bif(!(decide (jl=(0:Int)))) then(K (bs []) (0:Int) jl) else(K ((kQ).extract (a).toNat ((zW zI (a+r5))).toNat) (zW zI (a+r5)) (0:Int))))))) else none) else none) else none) else none))) else(bif(decide (r4=(2:Int))) then(bif(decide ((zW zI (((kQ).size:Int)-a))<(zW zI ((2:Int)*n)))) then(K (bs []) (0:Int) (2:Int)) else(bif(decide ((0:Int)<=(zW zI (a+(zW zI ((2:Int)*n)))))) then(bif(decide ((zW zI (a+(zW zI ((2:Int)*n))))<=(((kQ).size:Nat):Int))) then(bif(decide ((0:Int)<=a)) then(bif(decide (a<=((((zW zI (a+(zW zI ((2:Int)*n))))).toNat:Nat):Int))) then((jM iC jJ.2.1).bind fun kF=>(bif(decide (kF=(1:Int))) then((Q0 ((kQ).extract (a).toNat ((zW zI (a+(zW zI ((2:Int)*n))))).toNat) n).bind fun jm=>(bif(!(decide (jm.2.1=(0:Int)))) then(K (bs []) (0:Int) jm.2.1) else((bz jJ jm.1).bind fun sm=>(bif(!(decide (sm=(0:Int)))) then(K (bs []) (0:Int) sm) else(K jm.1 (zW zI (a+(zW zI ((2:Int)*n)))) (0:Int)))))) else(bif(decide (kF=(2:Int))) then((fI ((kQ).extract (a).toNat ((zW zI (a+(zW zI ((2:Int)*n))))).toNat)).bind fun uD=>(bif(!uD.2.2) then(K (bs []) (0:Int) (3:Int)) else((bz jJ uD.1).bind fun yZ=>(bif(!(decide (yZ=(0:Int)))) then(K (bs []) (0:Int) yZ) else(K uD.1 (zW zI (a+(zW zI ((2:Int)*n)))) (0:Int)))))) else((bz jJ ((kQ).extract (a).toNat ((zW zI (a+(zW zI ((2:Int)*n))))).toNat)).bind fun zA=>(bif(!(decide (zA=(0:Int)))) then(K (bs []) (0:Int) zA) else(K ((kQ).extract (a).toNat ((zW zI (a+(zW zI ((2:Int)*n))))).toNat) (zW zI (a+(zW zI ((2:Int)*n)))) (0:Int))))))) else none) else none) else none) else none)) else(bif(decide ((zW zI (((kQ).size:Int)-a))<n)) then(K (bs []) (0:Int) (2:Int)) else(bif(decide ((0:Int)<=(zW zI (a+n)))) then(bif(decide ((zW zI (a+n))<=(((kQ).size:Nat):Int))) then(bif(decide ((0:Int)<=a)) then(bif(decide (a<=((((zW zI (a+n))).toNat:Nat):Int))) then((jM iC jJ.2.1).bind fun zB=>(bif(decide (zB=(1:Int))) then((Q0 ((kQ).extract (a).toNat ((zW zI (a+n))).toNat) n).bind fun rG=>(bif(!(decide (rG.2.1=(0:Int)))) then(K (bs []) (0:Int) rG.2.1) else((bz jJ rG.1).bind fun zE=>(bif(!(decide (zE=(0:Int)))) then(K (bs []) (0:Int) zE) else(K rG.1 (zW zI (a+n)) (0:Int)))))) else(bif(decide (zB=(2:Int))) then((fI ((kQ).extract (a).toNat ((zW zI (a+n))).toNat)).bind fun uE=>(bif(!uE.2.2) then(K (bs []) (0:Int) (3:Int)) else((bz jJ uE.1).bind fun Fa=>(bif(!(decide (Fa=(0:Int)))) then(K (bs []) (0:Int) Fa) else(K uE.1 (zW zI (a+n)) (0:Int)))))) else((bz jJ ((kQ).extract (a).toNat ((zW zI (a+n))).toNat)).bind fun Fb=>(bif(!(decide (Fb=(0:Int)))) then(K (bs []) (0:Int) Fb) else(K ((kQ).extract (a).toNat ((zW zI (a+n))).toNat) (zW zI (a+n)) (0:Int))))))) else none) else none) else none) else none)))))
theorem aa0(style:Int)(s:Spec)(b:ByteArray)(n a:Nat)(hb:b.size<=1099511627776)(hn:n<=999)(ha:a<=b.size)(hh:bK style s.2.1=0):iR style s b n a=some (od (bK style s.2.1) s b n a):=by
 unfold iR
 simp only[Pk,zc]
 have w0:zW zI ((b.size:Int)-(a:Int))=(b.size:Int)-a:=zg (by omega) (by omega)
 have w1:∀z:Nat,z<=2000->zW zI ((a:Int)+(z:Int))=((a+z:Nat):Int):=fun z hz=>by rw[zg (by omega) (by omega)];omega
 have hx:∀z:Nat,((a+z:Nat):Int).toNat=a+z:=fun z=>Int.toNat_natCast _
 have qL:∀z:Nat,(b.extract a (a+z)).size<=1099511627776:=fun z=>by rw[ByteArray.size_extract];omega
 rw[hh]
 simp only[Int.reduceEq,decide_true,decide_false,zC,zD,w0,w1 n (by omega),hx,Int.toNat_natCast]
 unfold od fA iU
 simp only[show¬((0:Int)=1) from by decide,show¬((0:Int)=2) from by decide,if_false]
 split
 ·rename_i hc
  rw[zT (by omega),zC]
 ·rename_i hc
  rw[zF (by omega),zD,zT (by omega),zC,zT (by omega),zC,zT (by omega),zC,zT (by omega),zC,sr _ _ (qL n),zc]
  unfold iS
  by_cases hv:aY s (b.extract a (a+n))=0
  ·simp only[hv,decide_true,Bool.not_true,zD,if_true]
  ·simp only[hv,decide_false,Bool.not_false,zC,if_false]
theorem aa1(style:Int)(s:Spec)(b:ByteArray)(n a:Nat)(hb:b.size<=1099511627776)(hn:n<=999)(ha:a<=b.size)(hh:bK style s.2.1=1):iR style s b n a=some (od (bK style s.2.1) s b n a):=by
 unfold iR
 simp only[Pk,zc]
 have w0:zW zI ((b.size:Int)-(a:Int))=(b.size:Int)-a:=zg (by omega) (by omega)
 have w1:∀z:Nat,z<=2000->zW zI ((a:Int)+(z:Int))=((a+z:Nat):Int):=fun z hz=>by rw[zg (by omega) (by omega)];omega
 have hx:∀z:Nat,((a+z:Nat):Int).toNat=a+z:=fun z=>Int.toNat_natCast _
 have qL:∀z:Nat,(b.extract a (a+z)).size<=1099511627776:=fun z=>by rw[ByteArray.size_extract];omega
 rw[hh]
 have ez:((n:Int)+1)/2=(((n+1)/2:Nat):Int):=by omega
 simp only[Int.reduceEq,decide_true,decide_false,zC,zD,Ie (n:Int) (by omega) (by omega),zc,ez]
 simp only[w0,w1 ((n+1)/2) (by omega),hx,Int.toNat_natCast,Int.reduceEq,decide_true,decide_false,zC,zD]
 unfold od fA iU
 simp only[if_true]
 split
 ·rename_i hc
  rw[zT (by omega),zC]
 ·rename_i hc
  rw[zF (by omega),zD,zT (by omega),zC,zT (by omega),zC,zT (by omega),zC,zT (by omega),zC,zf0 _ _ (qL _),zc]
  generalize hg:ib (b.extract a (a+(n+1)/2)) (n:Int)=g
  obtain⟨t,e,i⟩:=g
  have gj:=H7 hg
  dsimp only
  by_cases he:e=0
  ·rw[zT he,Bool.not_true,zD,if_pos he,sr _ _ (by omega),zc]
   unfold iS
   by_cases hv:aY s t=0
   ·simp only[hv,decide_true,Bool.not_true,zD,if_true]
   ·simp only[hv,decide_false,Bool.not_false,zC,if_false]
  ·rw[zF he,Bool.not_false,zC,if_neg he];rfl
theorem aa2(style:Int)(s:Spec)(b:ByteArray)(n a:Nat)(hb:b.size<=1099511627776)(hn:n<=999)(ha:a<=b.size)(hh:bK style s.2.1=2):iR style s b n a=some (od (bK style s.2.1) s b n a):=by
 unfold iR
 simp only[Pk,zc]
 have w0:zW zI ((b.size:Int)-(a:Int))=(b.size:Int)-a:=zg (by omega) (by omega)
 have w1:∀z:Nat,z<=2000->zW zI ((a:Int)+(z:Int))=((a+z:Nat):Int):=fun z hz=>by rw[zg (by omega) (by omega)];omega
 have hx:∀z:Nat,((a+z:Nat):Int).toNat=a+z:=fun z=>Int.toNat_natCast _
 have qL:∀z:Nat,(b.extract a (a+z)).size<=1099511627776:=fun z=>by rw[ByteArray.size_extract];omega
 rw[hh]
 have ez:zW zI ((2:Int)*(n:Int))=((2*n:Nat):Int):=by rw[zg (by omega) (by omega)];omega
 simp only[Int.reduceEq,decide_true,decide_false,zD,zC]
 rw[ez]
 simp only[w0,w1 (2*n) (by omega),hx,Int.toNat_natCast,Int.reduceEq,decide_true,decide_false,zC,zD]
 unfold od fA iU
 simp only[show¬((2:Int)=1) from by decide,if_false,if_true]
 split
 ·rename_i hc
  rw[zT (by omega),zC]
 ·rename_i hc
  rw[zF (by omega),zD,zT (by omega),zC,zT (by omega),zC,zT (by omega),zC,zT (by omega),zC,zqq _ (qL _),zc]
  have gj:=zkv (b.extract a (a+2*n))
  have h3:=qL (2*n)
  generalize jx (b.extract a (a+2*n))=g at gj
  obtain⟨t,i,ok⟩:=g
  dsimp only at gj⊢
  cases ok with
  |true=>
   rw[Bool.not_true,zD,if_pos rfl,sr _ _ (by omega),zc]
   unfold iS
   by_cases hv:aY s t=0
   ·simp only[hv,decide_true,Bool.not_true,zD,if_true]
   ·simp only[hv,decide_false,Bool.not_false,zC,if_false]
  |false=>rw[Bool.not_false,zC,if_neg (by decide)];rfl
theorem FG(style:Int)(s:Spec)(b:ByteArray)(n a:Nat)(hb:b.size<=1099511627776)(hn:n<=999)(ha:a<=b.size):iR style s b n a=some (od (bK style s.2.1) s b n a):=by
 rcases Cj style s.2.1 with hh|hh|hh
 ·exact aa0 style s b n a hb hn ha hh
 ·exact aa1 style s b n a hb hn ha hh
 ·exact aa2 style s b n a hb hn ha hh
theorem Td(style:Int)(s:Spec)(b:ByteArray)(at_:Int)(hb:b.size<=1099511627776):Cp style s b at_=some (kP style s b at_):=by
 have hk:xV style=some (decide (style=1\/style=2)):=by
  unfold xV Ji
  by_cases h1:style=1
  ·rw[zT (p:=style=1\/style=2) (.inl h1),zT h1];rfl
  ·rw[zF h1,zD]
   by_cases h2:style=2
   ·rw[zT (p:=style=1\/style=2) (.inr h2),zT h2]
   ·rw[zF (p:=style=1\/style=2) (fun h=>h.elim h1 h2),zF h2]
 unfold Cp NF kP
 rw[hk,zc]
 by_cases h1:style=1\/style=2
 case neg=>rw[zF h1,if_neg (fun h=>h1 h.1)];rfl
 rw[zT h1,Bool.not_true,zD,H6,zc]
 by_cases h2:bc s=0
 case neg=>rw[zF h2,if_neg (fun h=>h2 h.2.1)];rfl
 rw[zT h2,Bool.not_true,zD]
 by_cases h3:at_<0
 ·rw[zT h3,if_neg (fun h=>by omega)];rfl
 rw[zF h3,zD]
 by_cases h4:(b.size:Int)<at_
 ·rw[zT h4,if_neg (fun h=>by omega)];rfl
 rw[zF h4,zD,if_pos ⟨h1,h2,by omega,by omega⟩]
 obtain⟨k1,k2,k3,k4,k5,k6,k7,k8,k9⟩:=AD h2
 obtain⟨m,rfl⟩:∃m:Nat,at_=m:=⟨at_.toNat,by omega⟩
 unfold JF
 by_cases h5:s.2.2.1=1
 ·rw[zT h5,Bool.not_true,zD,if_pos h5]
  have:=FG style s b s.2.2.2.1.toNat m hb (by omega) (by omega)
  rw[Int.toNat_of_nonneg (by omega)] at this
  exact this
 ·rw[zF h5,Bool.not_false,zC,if_neg h5,VY _ _ _ _ hb,zc]
  by_cases h6:(gC style s.2.2.1 b m).2.2=0
  case neg=>rw[zF h6,if_pos h6];rfl
  rw[zT h6,Bool.not_true,zD,if_neg (fun h=>h h6)]
  have hp:=zxn h6
  by_cases h7:(gC style s.2.2.1 b m).1<s.2.2.2.1
  ·rw[zT h7,if_pos (.inl h7)];rfl
  rw[zF h7,zD]
  by_cases h8:s.2.2.2.2.1<(gC style s.2.2.1 b m).1
  ·rw[zT h8,if_pos (.inr h8)];rfl
  rw[zF h8,zD,if_neg (fun h=>h.elim h7 h8)]
  have:=FG style s b (gC style s.2.2.1 b m).1.toNat (gC style s.2.2.1 b m).2.1.toNat hb (by omega) (by omega)
  rw[Int.toNat_of_nonneg (by omega),Int.toNat_of_nonneg (by omega)] at this
  exact this
theorem wQ{style c:Int}(h:bK style c=1):style=2/\c=1:=by
 unfold bK at h
 split at h
 ·assumption
 ·split at h<;>cases h
theorem EP{style c:Int}(h:bK style c=2):style=1/\(c=5\/c=6):=by
 unfold bK at h
 split at h
 ·cases h
 ·split at h
  ·assumption
  ·cases h
theorem EO{style c:Int}(h:bK style c=0)(hs:style=1\/style=2)(hc:c<=6):(style=1/\¬5<=c)\/(style=2/\¬c=1):=by
 unfold bK at h
 split at h
 ·cases h
 ·split at h
  ·cases h
  ·omega
theorem xb(style:Int)(s:Spec)(b:ByteArray)(n a:Nat)(hb:b.size<=1099511627776)(hn:n<=999)(ha:a<=b.size)(hs:style=1\/style=2)(hc:s.2.1<=6):z40 style b a n s=some (od (bK style s.2.1) s b n a):=by
 have w0:zW zI ((b.size:Int)-(a:Int))=(b.size:Int)-a:=zg (by omega) (by omega)
 have w1:∀z:Nat,z<=2000->zW zI ((a:Int)+(z:Int))=((a+z:Nat):Int):=fun z hz=>by rw[zg (by omega) (by omega)];omega
 have hx:∀z:Nat,((a+z:Nat):Int).toNat=a+z:=fun z=>Int.toNat_natCast _
 have qL:∀z:Nat,(b.extract a (a+z)).size<=1099511627776:=fun z=>by rw[ByteArray.size_extract];omega
 have ez:zW zI ((n:Int)+(n:Int))=((2*n:Nat):Int):=by rw[zg (by omega) (by omega)];omega
 have e1:zW zI ((n:Int)+1)=((n+1:Nat):Int):=by rw[zg (by omega) (by omega)];omega
 have e2:Int.tdiv ((n+1:Nat):Int) 2=(((n+1)/2:Nat):Int):=rfl
 have e3:zW zI (((n+1)/2:Nat):Int)=(((n+1)/2:Nat):Int):=zg (by omega) (by omega)
 unfold od fA iU
 rcases Cj style s.2.1 with hh|hh|hh
 ·have key:z40 style b a n s=bif decide ((b.size:Int)-a<(n:Int)) then some (bs [],0,2) else bif decide ((0:Int)<=((a+n:Nat):Int)) then bif decide (((a+n:Nat):Int)<=(b.size:Int)) then bif decide ((0:Int)<=(a:Int)) then bif decide ((a:Int)<=((a+n:Nat):Int)) then(nC s (b.extract a (a+n))).bind fun r6=>bif !(decide (r6=(0:Int))) then some (bs [],0,r6) else some (b.extract a (a+n),((a+n:Nat):Int),0) else none else none else none else none:=by
   rcases EO hh hs hc with⟨h1,h2⟩|⟨h1,h2⟩
   ·subst h1
    simp only[z40,B9,Ca,Cb,Cc,BL,BM,BN,Aq,BO,BP,Ar,BQ,vh,vi,vj,vk,As,u6,At,Au,u7,Av,Aw,Ax,Ay,Int.reduceEq,decide_true,decide_false,zC,zD,h2,w0,w1 n (by omega),hx,Int.toNat_natCast]
   ·subst h1
    simp only[z40,B9,Ca,Cb,Cc,BL,BM,BN,Aq,BO,BP,Ar,BQ,vh,vi,vj,vk,As,u6,At,Au,u7,Av,Aw,Ax,Ay,Int.reduceEq,decide_true,decide_false,zC,zD,h2,w0,w1 n (by omega),hx,Int.toNat_natCast]
  rw[key,hh]
  simp only[Int.reduceEq,if_false]
  split
  ·rename_i hc
   rw[zT (by omega),zC]
  ·rename_i hc
   rw[zF (by omega),zD,zT (by omega),zC,zT (by omega),zC,zT (by omega),zC,zT (by omega),zC,Bi _ _ (qL n),zc]
   unfold iS
   by_cases hv:aY s (b.extract a (a+n))=0
   ·simp only[hv,decide_true,Bool.not_true,zD,if_true]
   ·simp only[hv,decide_false,Bool.not_false,zC,if_false]
 ·have key:z40 style b a n s=bif decide ((b.size:Int)-a<(((n+1)/2:Nat):Int)) then some (bs [],0,2) else bif decide ((0:Int)<=((a+(n+1)/2:Nat):Int)) then bif decide (((a+(n+1)/2:Nat):Int)<=(b.size:Int)) then bif decide ((0:Int)<=(a:Int)) then bif decide ((a:Int)<=((a+(n+1)/2:Nat):Int)) then(pC (b.extract a (a+(n+1)/2)) n).bind fun r4=>bif !(decide (r4.2.1=(0:Int))) then some (bs [],0,r4.2.1) else(nC s r4.1).bind fun r6=>bif !(decide (r6=(0:Int))) then some (bs [],0,r6) else some (r4.1,((a+(n+1)/2:Nat):Int),0) else none else none else none else none:=by
   obtain⟨h1,h2⟩:=wQ hh
   subst h1
   simp only[z40,B9,Ca,Cb,Cc,BL,BM,BN,Aq,BO,BP,Ar,BQ,vh,vi,vj,vk,As,u6,At,Au,u7,Av,Aw,Ax,Ay,Int.reduceEq,decide_true,decide_false,zC,zD,h2,w0,e1,e2,e3,w1 ((n+1)/2) (by omega),hx,Int.toNat_natCast]
  rw[key,hh]
  simp only[if_true]
  split
  ·rename_i hc
   rw[zT (by omega),zC]
  ·rename_i hc
   rw[zF (by omega),zD,zT (by omega),zC,zT (by omega),zC,zT (by omega),zC,zT (by omega),zC,zld _ _ (qL _),zc]
   generalize hg:ib (b.extract a (a+(n+1)/2)) (n:Int)=g
   obtain⟨t,e,i⟩:=g
   have gj:=H7 hg
   dsimp only
   by_cases he:e=0
   ·rw[zT he,Bool.not_true,zD,if_pos he,Bi _ _ (by omega),zc]
    unfold iS
    by_cases hv:aY s t=0
    ·simp only[hv,decide_true,Bool.not_true,zD,if_true]
    ·simp only[hv,decide_false,Bool.not_false,zC,if_false]
   ·rw[zF he,Bool.not_false,zC,if_neg he];rfl
 ·have key:z40 style b a n s=bif decide ((b.size:Int)-a<((2*n:Nat):Int)) then some (bs [],0,2) else bif decide ((0:Int)<=((a+2*n:Nat):Int)) then bif decide (((a+2*n:Nat):Int)<=(b.size:Int)) then bif decide ((0:Int)<=(a:Int)) then bif decide ((a:Int)<=((a+2*n:Nat):Int)) then(vC (b.extract a (a+2*n))).bind fun r5=>bif !r5.2.2 then some (bs [],0,3) else(nC s r5.1).bind fun r6=>bif !(decide (r6=(0:Int))) then some (bs [],0,r6) else some (r5.1,((a+2*n:Nat):Int),0) else none else none else none else none:=by
   obtain⟨h1,h2⟩:=EP hh
   have h3:5<=s.2.1:=by omega
   subst h1
   simp only[z40,B9,Ca,Cb,Cc,BL,BM,BN,Aq,BO,BP,Ar,BQ,vh,vi,vj,vk,As,u6,At,Au,u7,Av,Aw,Ax,Ay,Int.reduceEq,decide_true,decide_false,zC,zD,h3,w0,ez,w1 (2*n) (by omega),hx,Int.toNat_natCast]
  rw[key,hh]
  simp only[Int.reduceEq,if_false,if_true]
  split
  ·rename_i hc
   rw[zT (by omega),zC]
  ·rename_i hc
   rw[zF (by omega),zD,zT (by omega),zC,zT (by omega),zC,zT (by omega),zC,zT (by omega),zC,zyo _ (qL _),zc]
   have gj:=zkv (b.extract a (a+2*n))
   have h3:=qL (2*n)
   generalize jx (b.extract a (a+2*n))=g at gj
   obtain⟨t,i,ok⟩:=g
   dsimp only at gj⊢
   cases ok with
   |true=>
    rw[Bool.not_true,zD,if_pos rfl,Bi _ _ (by omega),zc]
    unfold iS
    by_cases hv:aY s t=0
    ·simp only[hv,decide_true,Bool.not_true,zD,if_true]
    ·simp only[hv,decide_false,Bool.not_false,zC,if_false]
   |false=>rw[Bool.not_false,zC,if_neg (by decide)];rfl
theorem WH(style:Int)(s:Spec)(b:ByteArray)(at_:Int)(hb:b.size<=1099511627776):A0 style s b at_=some (kP style s b at_):=by
 have hk:A0 style s b at_=bif decide ((style=1\/style=2)/\bc s=0/\0<=at_/\at_<=b.size) then Pc style b at_ s else some (bs [],0,1):=by
  unfold A0 Cd
  simp only[rR,zc]
  by_cases h1:style=1<;>by_cases h2:style=2<;>by_cases h3:bc s=0<;>by_cases h4:at_<0<;>by_cases h5:(b.size:Int)<at_<;>(try(exfalso;omega))<;>simp [h1,h2,h3,h4,h5,zO,Pd]
  all_goals(try omega)
  all_goals first
   |(rw[zT (by omega),zT (by omega)];rfl)
   |(rw[zF (by omega)];rfl)
   |(rw[zT (by omega),zF (by omega)];rfl)
 rw[hk]
 unfold kP
 by_cases h0:(style=1\/style=2)/\bc s=0/\0<=at_/\at_<=(b.size:Int)
 case neg=>rw[zF h0,if_neg h0];rfl
 rw[zT h0,zC,if_pos h0]
 obtain⟨h1,h2,h3,h4⟩:=h0
 obtain⟨k1,k2,k3,k4,k5,k6,k7,k8,k9⟩:=AD h2
 obtain⟨m,rfl⟩:∃m:Nat,at_=m:=⟨at_.toNat,by omega⟩
 unfold Pc Pe JF
 by_cases h5:s.2.2.1=1
 ·rw[zT h5,Bool.not_true,zD,if_pos h5]
  have:=xb style s b s.2.2.2.1.toNat m hb (by omega) (by omega) h1 k2
  rw[Int.toNat_of_nonneg (by omega),k9 h5] at this
  rw[k9 h5]
  exact this
 ·rw[zF h5,Bool.not_false,zC,if_neg h5,WG _ _ _ _ hb,zc]
  by_cases h6:(gC style s.2.2.1 b m).2.2=0
  case neg=>rw[zF h6,if_pos h6];rfl
  rw[zT h6,Bool.not_true,zD,if_neg (fun h=>h h6)]
  have hp:=zxn h6
  unfold zP Ce zQ Pf z105 Pg
  dsimp only
  by_cases h7:(gC style s.2.2.1 b m).1<s.2.2.2.1
  ·rw[zT h7,if_pos (.inl h7)];rfl
  rw[zF h7,zD]
  by_cases h8:s.2.2.2.2.1<(gC style s.2.2.1 b m).1
  ·rw[zT h8,if_pos (.inr h8)];rfl
  rw[zF h8,zD,if_neg (fun h=>h.elim h7 h8)]
  have:=xb style s b (gC style s.2.2.1 b m).1.toNat (gC style s.2.2.1 b m).2.1.toNat hb (by omega) (by omega) h1 k2
  rw[Int.toNat_of_nonneg (by omega),Int.toNat_of_nonneg (by omega)] at this
  exact this
def fM(h:Int)(t:ByteArray):ByteArray:=if h=1 then(oh t).1 else if h=2 then pr t else t
def fy(style form:Int)(n:Nat):ByteArray:=if form=1 then bs [] else(z24 style form n).1
def oe(style:Int)(s:Spec)(t:ByteArray):ByteArray×Int:=
 if¬(style=1\/style=2) then(bs [],1) else if¬aY s t=0 then(bs [],aY s t) else(fy style s.2.2.1 t.size++fM (bK style s.2.1) t,0)
theorem zf2(t:ByteArray):(oh t).1.size<=500:=by
 by_cases h:t.size<=999/\aX (bl t)=true
 ·rw[H8 h.1 h.2];omega
 ·unfold oh;rw[zF h];exact Nat.zero_le _
theorem zxm(style form:Int)(n:Nat):(fy style form n).size<=500:=by
 unfold fy z24
 split
 ·exact Nat.zero_le _
 ·cases dk style form with
  |false=>exact Nat.zero_le _
  |true=>
   cases(fe (n:Int) form).2 with
   |false=>exact Nat.zero_le _
   |true=>
    show(if style=2 then _ else _:ByteArray).size<=500
    split
    ·exact zf2 _
    ·have:=zxo (n:Int) form;omega
theorem zwf(h:Int)(t:ByteArray):(fM h t).size<=2*t.size+500:=by
 unfold fM
 split
 ·have:=zf2 t;omega
 ·split
  ·rw[Ia];omega
  ·omega
theorem Pj(x:ByteArray):bs []++x=x:=by
 apply ByteArray.ext
 simp [ByteArray.data_append,bs]
theorem Te(style:Int)(s:Spec)(t:ByteArray)(ht:t.size<=1099511627776):xU style s t=some (oe style s t):=by
 unfold xU NI xV Ji oe
 have du:=zwf (bK style s.2.1) t
 have j4:=zxm style s.2.2.1 t.size
 have main:style=1\/style=2->(bz s t).bind (fun r2=>(bif(!(decide (r2=(0:Int)))) then some (bs [],r2) else(bif(!(decide (s.2.2.1=(1:Int)))) then((oB style s.2.2.1 ((t).size:Int)).bind fun r3=>((jM style s.2.1).bind fun r4=>(bif(decide (r4=(1:Int))) then((Q1 t).bind fun r5=>(bif decide ((r3.1).size+(r5.1).size<=9223372036854775807) then some (r3.1++r5.1,(0:Int)) else none)) else(bif(decide (r4=(2:Int))) then((iF t).bind fun r6=>(bif decide ((r3.1).size+(r6).size<=9223372036854775807) then some (r3.1++r6,(0:Int)) else none)) else(bif decide ((r3.1).size+(t).size<=9223372036854775807) then some (r3.1++t,(0:Int)) else none))))) else((jM style s.2.1).bind fun r7=>(bif(decide (r7=(1:Int))) then((Q1 t).bind fun r8=>(bif decide (((bs [])).size+(r8.1).size<=9223372036854775807) then some ((bs [])++r8.1,(0:Int)) else none)) else(bif(decide (r7=(2:Int))) then((iF t).bind fun r9=>(bif decide (((bs [])).size+(r9).size<=9223372036854775807) then some ((bs [])++r9,(0:Int)) else none)) else(bif decide (((bs [])).size+(t).size<=9223372036854775807) then some ((bs [])++t,(0:Int)) else none)))))))=some (if¬aY s t=0 then(bs [],aY s t) else(fy style s.2.2.1 t.size++fM (bK style s.2.1) t,0)):=fun hs=>by
  rw[sr s t ht,zc]
  by_cases hv:aY s t=0
  case neg=>rw[zF hv,if_pos hv];rfl
  rw[zT hv,Bool.not_true,zD,if_neg (fun h=>h hv)]
  simp only[Pk,zc,VZ _ _ _ (show(t.size:Int)<=9223372036854775807 by omega),zf1 t (by simp only[maxLen];omega),zqr t ht]
  have hz:(bs []).size=0:=rfl
  by_cases h1:s.2.2.1=1
  ·rw[zT h1,Bool.not_true,zD]
   unfold fy
   rw[if_pos h1]
   unfold fM at du⊢
   rcases Cj style s.2.1 with hh|hh|hh<;>rw[hh] at du⊢ <;>simp only[Int.reduceEq,decide_true,decide_false,zC,zD,if_true,if_false] at du⊢
   all_goals rw[zT (by omega),zC]
  ·rw[zF h1,Bool.not_false,zC]
   unfold fy at j4⊢
   rw[if_neg h1] at j4⊢
   unfold fM at du⊢
   rcases Cj style s.2.1 with hh|hh|hh<;>rw[hh] at du⊢ <;>simp only[Int.reduceEq,decide_true,decide_false,zC,zD,if_true,if_false] at du⊢
   all_goals rw[zT (by omega),zC]
 by_cases h1:style=1
 ·rw[zT h1,zC,zc,Bool.not_true,zD,if_neg (fun h=>h (.inl h1))]
  exact main (.inl h1)
 ·rw[zF h1,zD,zc]
  by_cases h2:style=2
  ·rw[zT h2,Bool.not_true,zD,if_neg (fun h=>h (.inr h2))]
   exact main (.inr h2)
  ·rw[zF h2,if_pos (fun h=>h.elim h1 h2)];rfl
theorem Nl(x p y:ByteArray):(x++p++y).extract x.size (x.size+p.size)=p:=by
 apply xK
 rw[z28,uO,uO,List.append_assoc,<-zh,<-zh,List.take_append,List.drop_append_of_le_length (by simp),]
 simp
theorem zu(x y:ByteArray):(x++y).size=x.size+y.size:=ByteArray.size_append ..
theorem G1(b:ByteArray){i j k:Nat}(h:i<=j)(h2:j<=k):b.extract i j++b.extract j k=b.extract i k:=by
 apply xK
 rw[uO,z28,z28,z28]
 generalize bl b=l
 have e1:l.take j=(l.take k).take j:=by rw[List.take_take];congr 1;omega
 rw[e1]
 generalize l.take k=q
 rw[<-List.take_append_drop (j-i) (q.drop i),List.drop_take,List.drop_drop,show i+(j-i)=j by omega]
theorem Za{n w:Int}(h:0<=n/\1<=w/\w<=18/\n.toNat/10^w.toNat=0):cE (bl (fe n w).1)=(n,true)/\(fe n w).1.size=w.toNat/\aX (bl (fe n w).1)=true/\(fe n w).2=true:=by
 rw[Pp h]
 dsimp only
 have hb:bl (strOf (l8 w.toNat n.toNat))=l8 w.toNat n.toNat:=pj (zmo (Nj _ _))
 refine⟨?_,by rw[lX,Ig],by rw[hb];exact Nj _ _,rfl⟩
 rw[hb]
 unfold cE
 rw[Ig,Nj,if_pos ⟨by omega,by omega,rfl⟩,Gq _ _ h.2.2.2,Int.toNat_of_nonneg h.1]
theorem zwz{s:ByteArray}{n:Int}(h:cE (bl s)=(n,true)):fe n s.size=(s,true)/\0<=n:=by
 unfold cE at h
 split at h
 ·rename_i hc
  obtain⟨h1,h2,h3⟩:=hc
  have hv:dI (bl s) 0=n:=congrArg Prod.fst h
  have hn:=(zrh (bl s) 0 0 h3 (Int.le_refl _) (by simp) (by omega)).1
  rw[hv] at hn
  obtain⟨e1,e2⟩:=FJ (bl s).length n.toNat (bl s) h3 rfl (by rw[hv,Int.toNat_of_nonneg hn])
  rw[zh] at e1 e2 h1 h2
  refine⟨?_,hn⟩
  rw[Pp ⟨hn,by omega,by omega,by rw[Int.toNat_natCast];exact e2⟩,Int.toNat_natCast,e1,z49]
 ·cases h
theorem zg2{style form:Int}:dk style form=true↔(style=1\/style=2)/\(form=2\/form=3):=by unfold dk;rw[decide_eq_true_eq]
theorem V0{style form:Int}{n:Nat}(hk:dk style form=true)(hn:n/10^form.toNat=0):kD style form (z24 style form n).1=some (n:Int)/\(z24 style form n).1.size=gN style form/\(z24 style form n).2=0:=by
 have wO:=zg2.1 hk
 obtain⟨p1,p2,p3,p4⟩:=Za (n:=(n:Int)) (w:=form) ⟨by omega,by omega,by omega,by rw[Int.toNat_natCast];exact hn⟩
 unfold kD gN z24
 rw[hk,zC,p4,zC]
 dsimp only
 by_cases hs:style=2
 ·rw[if_pos hs,if_pos hs,if_pos hs]
  have hb:=zmd (s:=(fe n form).1) (by omega) p3
  rw[p2,Int.toNat_of_nonneg (by omega)] at hb
  rw[hb]
  dsimp only
  rw[if_pos rfl,p1]
  refine⟨rfl,?_,rfl⟩
  rw[H8 (by omega) p3,p2]
 ·rw[if_neg hs,if_neg hs,if_neg hs,p1]
  exact⟨rfl,p2,rfl⟩
theorem TD{style form n:Int}{s:ByteArray}(hk:dk style form=true)(h:kD style form s=some n)(hs:s.size=gN style form):z24 style form n=(s,0)/\0<=n:=by
 have wO:=zg2.1 hk
 unfold kD at h
 unfold gN at hs
 unfold z24
 rw[hk,zC]
 by_cases h2:style=2
 ·rw[if_pos h2] at h hs⊢
  generalize hg:ib s form=g at h
  obtain⟨t,e,i⟩:=g
  dsimp only at h
  split at h
  case isFalse=>cases h
  rename_i he
  subst he
  obtain⟨a1,a2,a3⟩:=zw7 hg (by omega)
  split at h
  case isFalse=>cases h
  rename_i ho
  have hn:(cE (bl t)).1=n:=by simpa using h
  obtain⟨c1,c2⟩:=zwz (s:=t) (n:=n) (by rw[<-hn,<-ho])
  rw[a2] at c1
  rw[c1,zC]
  dsimp only
  rw[a1]
  exact⟨rfl,c2⟩
 ·rw[if_neg h2] at h hs⊢
  split at h
  case isFalse=>cases h
  rename_i ho
  have hn:(cE (bl s)).1=n:=by simpa using h
  obtain⟨c1,c2⟩:=zwz (s:=s) (n:=n) (by rw[<-hn,<-ho])
  rw[hs,Int.toNat_of_nonneg (by omega)] at c1
  rw[c1]
  exact⟨rfl,c2⟩
theorem Y9{style form:Int}{n:Nat}(hk:dk style form=true)(hn:n/10^form.toNat=0)(x y:ByteArray):gC style form (x++(z24 style form n).1++y) x.size=((n:Int),((x.size+(z24 style form n).1.size:Nat):Int),0):=by
 obtain⟨h1,h2,h3⟩:=V0 hk hn
 unfold gC
 rw[hk,zT ⟨by omega,by rw[zu,zu];omega⟩,Bool.and_true,zC,Int.toNat_natCast,if_neg (by rw[zu,zu];omega),<-h2,Nl,h1]
theorem V1{style form n z:Int}{b:ByteArray}{a:Nat}(h:gC style form b a=(n,z,0)):dk style form=true/\0<=n/\a<=b.size/\z=((a+gN style form:Nat):Int)/\a+gN style form<=b.size/\z24 style form n=(b.extract a (a+gN style form),0):=by
 unfold gC at h
 cases hk:(dk style form&&decide (0<=(a:Int)/\(a:Int)<=(b.size:Int))) with
 |false=>rw[hk] at h;cases h
 |true=>
  rw[hk,zC,Int.toNat_natCast] at h
  rw[Bool.and_eq_true,decide_eq_true_eq] at hk
  split at h
  ·cases h
  ·rename_i hs
   split at h
   ·rename_i m hm
    cases h
    obtain⟨c1,c2⟩:=TD hk.1 hm (uU (by omega))
    exact⟨hk.1,c2,by omega,rfl,by omega,c1⟩
   ·cases h
theorem Yq{style:Int}{s:Spec}{t:ByteArray}(ht:t.size<=1099511627776)(hv:aY s t=0):iU (bK style s.2.1) (fM (bK style s.2.1) t) t.size= .inr t/\(fM (bK style s.2.1) t).size=fA (bK style s.2.1) t.size:=by
 obtain⟨v1,v2,v3,v4,v5⟩:=(Aj s t ht).1 hv
 have hk:=AD v1
 unfold iU fM fA
 rcases Cj style s.2.1 with hh|hh|hh<;>rw[hh]<;>simp only[Int.reduceEq,if_true,if_false]
 ·exact⟨trivial,trivial⟩
 ·have hc:=wQ hh
  rw[hc.2,GU] at v4
  rw[zmd (by omega) v4]
  exact⟨rfl,H8 (by omega) v4⟩
 ·rw[FW]
  exact⟨rfl,Ia t⟩
theorem Vl{style:Int}{s:Spec}{c t:ByteArray}{n:Nat}(hc:c.size=fA (bK style s.2.1) n)(hn:n<=999)(h:iU (bK style s.2.1) c n= .inr t):fM (bK style s.2.1) t=c/\t.size=n:=by
 unfold iU at h
 unfold fA at hc
 unfold fM
 rcases Cj style s.2.1 with hh|hh|hh<;>rw[hh] at h hc⊢ <;>simp only[Int.reduceEq,if_true,if_false] at h hc⊢
 ·injection h with h
  exact⟨h.symm,by rw[<-h];exact hc⟩
 ·split at h
  case isFalse=>cases h
  rename_i he
  generalize hg:ib c (n:Int)=g at h he
  obtain⟨t',e,i⟩:=g
  dsimp only at h he
  subst he
  injection h with h
  subst h
  obtain⟨a1,a2,a3⟩:=zw7 hg (by omega)
  exact⟨by rw[a1],by omega⟩
 ·split at h
  case isFalse=>cases h
  rename_i he
  generalize hg:jx c=g at h he
  obtain⟨t',i,ok⟩:=g
  dsimp only at h he
  subst he
  injection h with h
  subst h
  obtain⟨a1,a2⟩:=zfu hg
  exact⟨a1,by omega⟩
theorem Y8{n:Nat}{form:Int}(hf:form=2\/form=3)(h2:form=2->n<=99)(h3:n<=999):n/10^form.toNat=0:=by
 rcases hf with rfl|rfl
 ·show n/100=0
  have:=h2 rfl
  omega
 ·show n/1000=0
  omega
theorem Vj{style:Int}{s:Spec}{t:ByteArray}(hs:style=1\/style=2)(ht:t.size<=1099511627776)(hv:aY s t=0)(x y:ByteArray):kP style s (x++(oe style s t).1++y) x.size=(t,((x.size+(oe style s t).1.size:Nat):Int),0):=by
 obtain⟨v1,v2,v3,v4,v5⟩:=(Aj s t ht).1 hv
 obtain⟨k1,k2,k3,k4,k5,k6,k7,k8,k9⟩:=AD v1
 obtain⟨c1,c2⟩:=Yq (style:=style) ht hv
 have hP:(oe style s t).1=fy style s.2.2.1 t.size++fM (bK style s.2.1) t:=by
  unfold oe
  rw[if_neg (fun h=>h hs),if_neg (fun h=>h hv)]
 rw[hP]
 generalize hC:fM (bK style s.2.1) t=C at c1 c2
 have body:∀(p:ByteArray),od (bK style s.2.1) s (p++C++y) t.size p.size=(t,((p.size+C.size:Nat):Int),0):=fun p=>by
  unfold od
  rw[<-c2,if_neg (by rw[zu,zu];omega),Nl,c1]
  show(if aY s t=0 then _ else _)=_
  rw[if_pos hv]
 unfold kP
 rw[if_pos ⟨hs,v1,by omega,by simp only[zu];omega⟩]
 unfold JF
 by_cases hf:s.2.2.1=1
 ·have hp:fy style s.2.2.1 t.size=bs []:=by unfold fy;rw[if_pos hf]
  rw[if_pos hf,hp,Pj]
  have hn:s.2.2.2.1.toNat=t.size:=by have:=k9 hf;omega
  rw[hn,Int.toNat_natCast]
  exact body x
 ·rw[if_neg hf]
  have hp:fy style s.2.2.1 t.size=(z24 style s.2.2.1 t.size).1:=by unfold fy;rw[if_neg hf]
  have io:dk style s.2.2.1=true:=zg2.2 ⟨hs,by omega⟩
  have hb:=Y9 io (n:=t.size) (Y8 (by omega) (fun e=>by have:=k8 e;omega) (by omega)) x (C++y)
  have yw:x++(fy style s.2.2.1 t.size++C)++y=x++(z24 style s.2.2.1 t.size).1++(C++y):=by rw[hp];simp [ByteArray.append_assoc]
  have ua:x++(z24 style s.2.2.1 t.size).1++(C++y)=(x++(z24 style s.2.2.1 t.size).1)++C++y:=by simp [ByteArray.append_assoc]
  rw[yw,hb]
  dsimp only
  rw[if_neg (fun h=>h rfl),if_neg (by omega)]
  unfold qC
  dsimp only
  rw[Int.toNat_natCast,Int.toNat_natCast,ua]
  have:=body (x++(z24 style s.2.2.1 t.size).1)
  rw[zu] at this
  rw[this,hp,zu,Nat.add_assoc]
theorem zqb{style z:Int}{s:Spec}{b t:ByteArray}{a:Nat}(hb:b.size<=1099511627776)(h:kP style s b a=(t,z,0)):(style=1\/style=2)/\aY s t=0/\(a:Int)<=z/\z<=b.size/\t.size<=999/\(oe style s t).1=b.extract a z.toNat:=by
 unfold kP at h
 split at h
 case isFalse=>cases h
 rename_i hc
 obtain⟨hs,v1,ha0,ha1⟩:=hc
 obtain⟨k1,k2,k3,k4,k5,k6,k7,k8,k9⟩:=AD v1
 have body:∀(n p:Nat),n<=999->od (bK style s.2.1) s b n p=(t,z,0)->aY s t=0/\z=((p+fA (bK style s.2.1) n:Nat):Int)/\p+fA (bK style s.2.1) n<=b.size/\t.size=n/\fM (bK style s.2.1) t=b.extract p (p+fA (bK style s.2.1) n):=by
  intro n p hn h
  unfold od at h
  split at h
  ·cases h
  ·rename_i ar
   cases hg:iU (bK style s.2.1) (b.extract p (p+fA (bK style s.2.1) n)) (n:Int) with
   |inl e=>
    rw[hg] at h
    replace h:(bs [],(0:Int),e)=(t,z,0):=h
    injection h with _ h
    injection h with _ h
    exfalso
    subst h
    unfold iU at hg
    split at hg
    ·split at hg
     ·cases hg
     ·rename_i bZ
      injection hg with hg
      exact bZ hg
    ·split at hg
     ·split at hg<;>cases hg
     ·cases hg
   |inr t'=>
    rw[hg] at h
    replace h:(if aY s t'=0 then(t',((p+fA (bK style s.2.1) n:Nat):Int),(0:Int)) else(bs [],0,aY s t'))=(t,z,0):=h
    split at h
    ·rename_i hv
     cases h
     obtain⟨c1,c2⟩:=Vl (uU (by omega)) hn hg
     exact⟨hv,rfl,by omega,c2,c1⟩
    ·rename_i hv
     injection h with _ h
     injection h with _ h
     exact absurd h hv
 have fin:aY s t=0->(oe style s t).1=fy style s.2.2.1 t.size++fM (bK style s.2.1) t:=fun hv=>by
  unfold oe
  rw[if_neg (fun h=>h hs),if_neg (fun h=>h hv)]
 unfold JF at h
 by_cases hf:s.2.2.1=1
 ·rw[if_pos hf] at h
  obtain⟨b1,b2,b3,b4,b5⟩:=body _ _ (by omega) h
  rw[Int.toNat_natCast] at b2 b3 b5
  refine⟨hs,b1,by omega,by omega,by omega,?_⟩
  rw[fin b1,b5,b2,Int.toNat_natCast]
  unfold fy
  rw[if_pos hf,Pj]
 ·rw[if_neg hf] at h
  split at h
  ·rename_i he
   unfold qC at h
   injection h with _ h
   injection h with _ h
   exact absurd h he
  ·rename_i he
   split at h
   ·cases h
   ·rename_i hr
    generalize hg:gC style s.2.2.1 b (a:Int)=g at h he hr
    obtain⟨n,z',e⟩:=g
    dsimp only at h he hr
    have he:e=0:=by
     by_cases e0:e=0
     ·exact e0
     ·exact absurd e0 he
    subst he
    obtain⟨q1,q2,q3,q4,q5,q6⟩:=V1 hg
    obtain⟨b1,b2,b3,b4,b5⟩:=body _ _ (by omega) h
    dsimp only at b2 b3 b5
    subst q4
    rw[Int.toNat_natCast] at b2 b3 b5
    refine⟨hs,b1,by omega,by omega,by omega,?_⟩
    rw[fin b1,b5,b2,Int.toNat_natCast]
    have hpc:fy style s.2.2.1 t.size=b.extract a (a+gN style s.2.2.1):=by
     unfold fy
     rw[if_neg hf,b4,Int.toNat_of_nonneg q2,q6]
    rw[hpc,G1 _ (by omega) (by omega)]
def mW(n:Nat)(l:List Int):Nat:=l.foldl (fun n c=>n*256+c.toNat) n
def fh(l:List Int):Nat:=mW 0 l
def jC(x:Nat):List Int:=[((x/72057594037927936 % 256:Nat):Int),((x/281474976710656 % 256:Nat):Int),((x/1099511627776 % 256:Nat):Int),((x/4294967296 % 256:Nat):Int),((x/16777216 % 256:Nat):Int),((x/65536 % 256:Nat):Int),((x/256 % 256:Nat):Int),((x % 256:Nat):Int)]
theorem Jb{x:Nat}(h:x<18446744073709551616):fh (jC x)=x:=by
 simp only[fh,mW,jC,List.foldl,Int.toNat_natCast]
 omega
theorem eight{l:List Int}(h:l.length=8):∃a b c d e f g i,l=[a,b,c,d,e,f,g,i]:=by
 match l,h with
 | [a,b,c,d,e,f,g,i],_=>exact⟨a,b,c,d,e,f,g,i,rfl⟩
def JE:Nat->Nat->List Int
 |0,_=>[]
 |m+1,x=>JE m (x/256)++ [((x % 256:Nat):Int)]
theorem Wp(l:List Int)(n:Nat)(c:Int):mW n (l++ [c])=mW n l*256+c.toNat:=by
 unfold mW;rw[List.foldl_append];rfl
theorem zqa:∀(m:Nat) (l:List Int),l.length=m->(∀y∈l,zn y)->JE m (fh l)=l/\fh l<256^m
 |0,l,h,_=>by
  have:=List.length_eq_zero_iff.1 h
  subst this
  exact⟨rfl,by decide⟩
 |m+1,l,h,hb=>by
  obtain⟨q,c,rfl⟩:∃q c,l=q++ [c]:=by
   rcases List.eq_nil_or_concat l with e|⟨q,c,e⟩
   ·rw[e] at h;cases h
   ·exact⟨q,c,by rw[e,List.concat_eq_append]⟩
  obtain⟨i1,i2⟩:=zqa m q (by rw[List.length_append,List.length_singleton] at h;omega) fun y hy=>hb y (List.mem_append_left _ hy)
  have hc:=hb c (List.mem_append_right _ (by simp))
  unfold zn at hc
  unfold fh at i1 i2⊢
  rw[Wp]
  generalize mW 0 q=v at i1 i2
  refine⟨?_,by rw[Nat.pow_succ];omega⟩
  rw[JE,show(v*256+c.toNat)/256=v by omega,i1,show(v*256+c.toNat)% 256=c.toNat by omega,Int.toNat_of_nonneg hc.1]
theorem Eb(x:Nat):jC x=JE 8 x:=by
 simp only[JE,jC,Nat.div_div_eq_div_mul,List.nil_append,List.cons_append]
theorem BZ{l:List Int}(h:l.length=8)(hb:∀y∈l,zn y):jC (fh l)=l/\fh l<18446744073709551616:=by
 obtain⟨h1,h2⟩:=zqa 8 l h hb
 rw[Eb]
 exact⟨h1,by rw[show(256:Nat)^8=18446744073709551616 from by decide] at h2;exact h2⟩
theorem zml(x:Nat):∀y∈jC x,zn y:=by
 intro y hy
 unfold jC at hy
 simp only[List.mem_cons,List.not_mem_nil,or_false] at hy
 unfold zn
 omega
theorem GY(x:Nat):(jC x).length=8:=rfl
theorem KW{x:Nat}(hx:x<18446744073709551616):jC x=[0,0,0,0,0,0,0,0]↔x=0:=by
 constructor
 ·intro h
  have:=Jb hx
  rw[h] at this
  rw[<-this];rfl
 ·rintro rfl;rfl
theorem ac5(n:Nat):zW zU (n:Int)=((n % 256:Nat):Int):=by
 simp [IntKind.wrap,IntKind.signed,IntKind.bits]
theorem xv(k x:Nat)(j:Nat)(hj:j<8)(p q:List Int):fY (k+1) (x:Int) (j:Int) p q=fY k (x:Int) ((j+1:Nat):Int) p (q.set j ((x/2^(8*(7-j))% 256:Nat):Int)):=by
 have e1:zW zI ((7:Int)-(j:Int))=((7-j:Nat):Int):=by rw[zg (by omega) (by omega)];omega
 have e2:zW zI ((8:Int)*((7-j:Nat):Int))=((8*(7-j):Nat):Int):=by rw[zg (by omega) (by omega)];omega
 conv=>lhs;unfold fY lm
 rw[zT (by omega),zC,e1,e2,zF (by omega),zD,zi hj,Ir x _ (by omega),ac5,zw (by omega),Int.toNat_natCast]
theorem Vg(k x:Nat)(p q:List Int):fY (k+1) (x:Int) ((8:Nat):Int) p q=some (p,q):=by
 unfold fY lm
 rw[zF (by omega)];rfl
theorem zmm(x:Nat):Q8 (x:Int)=some (jC x):=by
 obtain⟨k,hk⟩:∃k,ag=k+9:=⟨ag-9,by rw[zr]⟩
 unfold Q8 nx
 dsimp only
 rw[hk,show(0:Int)=((0:Nat):Int) from rfl,xv _ x 0 (by decide),xv _ x 1 (by decide),xv _ x 2 (by decide),xv _ x 3 (by decide),xv _ x 4 (by decide),xv _ x 5 (by decide),xv _ x 6 (by decide),xv _ x 7 (by decide),Vg,zc]
 unfold nz jC
 simp
theorem acZ{n c:Nat}(hc:c<256):n*256|||c=n*256+c:=by
 have:=Nat.two_pow_add_eq_or_of_lt (i:=8) (b:=c) hc n
 rw[show(2:Nat)^8=256 from rfl,Nat.mul_comm 256 n] at this
 exact this.symm
theorem zw9(l:List Int)(hl:l.length=8)(hb:∀y∈l,zn y):∀(m j k n:Nat),j+m=8->m<k->n<256^j->iK k (n:Int) l (j:Int)=some ((mW n (l.drop j):Nat):Int)
 |m,j,0,n,_,hk,_=>by omega
 |0,j,k+1,n,hj,hk,_=>by
  unfold iK ll
  rw[zF (by omega),zD,List.drop_eq_nil_of_le (by omega)];rfl
 |m+1,j,k+1,n,hj,hk,hn=>by
  have ar:j<l.length:=by omega
  have hc:=hb _ (List.getElem_mem ar)
  unfold zn at hc
  have hg:l.getD j 0=l[j]:=by rw[List.getD_eq_getElem?_getD,List.getElem?_eq_getElem ar];rfl
  have hp:(256:Nat)^j<=256^7:=Nat.pow_le_pow_right (by decide) (by omega)
  have hp7:(256:Nat)^7=72057594037927936:=by decide
  obtain⟨c,hcc⟩:∃c:Nat,l[j]=(c:Int):=⟨l[j].toNat,by omega⟩
  unfold iK ll
  rw[zT (by omega),zC,zi (by omega),Int.toNat_natCast,hg,hcc,zw (by omega)]
  have e1:IntKind.u64.wrap ((n:Int)*2^min ((8:Int)).toNat 64)=((n*256:Nat):Int):=by
   have:((n:Int)*2^min ((8:Int)).toNat 64)=((n*256:Nat):Int):=by
    rw[show min ((8:Int)).toNat 64=8 from rfl,show(2:Int)^8=256 from by decide];omega
   rw[this];exact BX (by omega)
  rw[e1,BX (by omega),uz (by omega) (by omega),acZ (by omega)]
  dsimp only
  have EI:n*256+c<256^(j+1):=by rw[Nat.pow_succ];omega
  rw[zw9 l hl hb m (j+1) k _ (by omega) (by omega) EI,List.drop_eq_getElem_cons ar,hcc]
  rfl
theorem GV(l:List Int)(hl:l.length=8)(hb:∀y∈l,zn y):Q7 l=some ((fh l:Nat):Int):=by
 unfold Q7 nu
 have:=zw9 l hl hb 8 0 ag 0 (by omega) (by rw[zr];omega) (by decide)
 rw[show((0:Nat):Int)=0 from rfl,List.drop_zero] at this
 dsimp only
 rw[this];rfl
def cU(style:Int):Nat:=if style=1 then 16 else 8
def gT(style:Int)(b:ByteArray)(a:Nat):Sum Int Nat:=
 if b.size<a+cU style then .inl 2 else if style=1 then(if(jx (b.extract a (a+cU style))).2.2=true then .inr (fh (bl (jx (b.extract a (a+cU style))).1)) else .inl 3) else .inr (fh (bl (b.extract a (a+cU style))))
def rK(a:Nat)(style:Int):Sum Int Nat->List Int×Int×Int
 | .inl e=>(List.replicate 8 0,0,e)
 | .inr x=>(jC x,((a+cU style:Nat):Int),0)
theorem wA{t:ByteArray}(h:t.size=8):bC (List.replicate 8 (0:Int)) (List.take 8 (mg t)) 0=jC (fh (bl t)):=by
 have hl:(bl t).length=8:=by rw[zh];exact h
 rw[(BZ hl fun y hy=>gP hy).1]
 have dx:mg t=bl t:=rfl
 rw[dx]
 obtain⟨a,b,c,d,e,f,g,i,hq⟩:=eight hl
 rw[hq]
 rfl
theorem nX{s t:ByteArray}{i:Int}(h:jx s=(t,i,true))(hs:s.size=16):t.size=8:=by have:=(zfu h).2;omega
theorem Hn(style:Int)(b:ByteArray)(a:Nat)(hb:b.size<=1099511627776)(ha:a<=b.size)(hs:style=1\/style=2):AW style b a=some (rK a style (gT style b a)):=by
 have w0:zW zI ((b.size:Int)-(a:Int))=(b.size:Int)-a:=zg (by omega) (by omega)
 have w8:zW zI ((a:Int)+8)=((a+8:Nat):Int):=by rw[zg (by omega) (by omega)];omega
 have R8:zW zI ((a:Int)+16)=((a+16:Nat):Int):=by rw[zg (by omega) (by omega)];omega
 have wm:zW zI ((8:Int)*2)=16:=by decide
 unfold AW NC gT cU
 rcases hs with rfl|rfl
 ·simp only[Int.reduceEq,decide_true,zC,wm,w0,R8,if_true,Int.toNat_natCast]
  split
  ·rename_i hc
   rw[zT (by omega)];rfl
  ·rename_i hc
   rw[zF (by omega),zD,zT (by omega),zC,zT (by omega),zC,zT (by omega),zC,zT (by omega),zC,zqq _ (by rw[ByteArray.size_extract];omega),zc]
   generalize hg:jx (b.extract a (a+16))=g
   obtain⟨t,i,ok⟩:=g
   cases ok with
   |false=>rfl
   |true=>
    have ht:=nX hg (uU (by omega))
    dsimp only
    rw[Bool.not_true,zD,if_pos rfl,wA ht]
    rfl
 ·simp only[Int.reduceEq,decide_false,zD,w0,w8,if_false,Int.toNat_natCast]
  split
  ·rename_i hc
   rw[zT (by omega)];rfl
  ·rename_i hc
   rw[zF (by omega),zD,zT (by omega),zC,zT (by omega),zC,zT (by omega),zC,zT (by omega),zC,wA (uU (by omega))]
   rfl
theorem JD{style:Int}{b:ByteArray}{a x:Nat}(hs:style=1\/style=2)(h:gT style b a= .inr x):x<18446744073709551616/\a+cU style<=b.size:=by
 unfold gT cU at h
 unfold cU
 rcases hs with rfl|rfl
 ·simp only[if_true] at h⊢
  split at h
  ·cases h
  ·split at h
   case isFalse=>cases h
   rename_i hc ho
   injection h with h
   generalize hg:jx (b.extract a (a+16))=g at h ho
   obtain⟨t,i,ok⟩:=g
   dsimp only at h ho
   subst ho
   have ht:=nX hg (uU (by omega))
   rw[<-h]
   exact⟨(BZ (by rw[zh];exact ht) fun y hy=>gP hy).2,by omega⟩
 ·simp only[Int.reduceEq,if_false] at h⊢
  split at h
  ·cases h
  ·injection h with h
   rw[<-h]
   exact⟨(BZ (by rw[zh];exact uU (by omega)) fun y hy=>gP hy).2,by omega⟩
def qA(e:Int):Nat×Nat×Int×Int:=(0,0,0,e)
def aW(style:Int)(b:ByteArray)(at_:Int):Nat×Nat×Int×Int:=
 if(style=1\/style=2)/\0<=at_/\at_<=b.size then
  match gT style b at_.toNat with
  | .inl e=>qA e
  | .inr x=>if x<9223372036854775808 then(x,0,((at_.toNat+cU style:Nat):Int),0) else
    match gT style b (at_.toNat+cU style) with
    | .inl e=>qA e
    | .inr y=>if y=0 then qA 8 else(x-9223372036854775808,y,((at_.toNat+cU style+cU style:Nat):Int),0)
 else qA 1
def bmR(r:Nat×Nat×Int×Int):sN×Int×Int:=(((r.1:Int),(r.2.1:Int),()),r.2.2.1,r.2.2.2)
theorem abw{x:Nat}(hx:x<18446744073709551616):decide (aD .and .u64 (x:Int) (9223372036854775808:Int)=0)=decide (x<9223372036854775808):=by
 rw[show(9223372036854775808:Int)=((9223372036854775808:Nat):Int) from rfl,lv hx (by decide)]
 apply decide_eq_decide.2
 have h:=z8i x 63
 rw[show(2:Nat)^63=9223372036854775808 from by decide] at h
 constructor
 ·intro e
  have e:x&&&9223372036854775808=0:=by omega
  have:=h.1 e
  rcases Nat.lt_or_ge x 9223372036854775808 with h1|h1
  ·exact h1
  ·have h2:x.testBit 63=true:=by
    rw[Nat.testBit_eq_decide_div_mod_eq]
    exact zT (by omega)
   rw[h2] at this;cases this
 ·intro e
  have:x.testBit 63=false:=Nat.testBit_lt_two_pow (by rw[show(2:Nat)^63=9223372036854775808 from by decide];exact e)
  have:=h.2 this
  omega
theorem abx{x:Nat}(hx:x<18446744073709551616)(h:¬x<9223372036854775808):aD .andNot .u64 (x:Int) (9223372036854775808:Int)=((x-9223372036854775808:Nat):Int):=by
 rw[show(9223372036854775808:Int)=((9223372036854775808:Nat):Int) from rfl,Yc hx (by decide)]
 have:x&&&(18446744073709551615-9223372036854775808)=x-9223372036854775808:=by
  have:=Nat.and_two_pow_sub_one_eq_mod x 63
  rw[show(2:Nat)^63-1=18446744073709551615-9223372036854775808 from by decide,show(2:Nat)^63=9223372036854775808 from by decide] at this
  omega
 rw[this]
theorem Yj(style:Int)(b:ByteArray)(at_:Int)(hb:b.size<=1099511627776):Q5 style b at_=some (bmR (aW style b at_)):=by
 have hk:Q9 style=some (decide (style=1\/style=2)):=by
  unfold Q9 ln
  by_cases h1:style=1
  ·rw[zT (p:=style=1\/style=2) (.inl h1),zT h1];rfl
  ·rw[zF h1,zD]
   by_cases h2:style=2
   ·rw[zT (p:=style=1\/style=2) (.inr h2),zT h2]
   ·rw[zF (p:=style=1\/style=2) (fun h=>h.elim h1 h2),zF h2]
 unfold Q5 ni aW
 rw[hk,zc]
 by_cases h1:style=1\/style=2
 case neg=>rw[zF h1,if_neg (fun h=>h1 h.1)];rfl
 rw[zT h1,Bool.not_true,zD]
 by_cases h3:at_<0
 ·rw[zT h3,if_neg (fun h=>by omega)];rfl
 rw[zF h3,zD]
 by_cases h4:(b.size:Int)<at_
 ·rw[zT h4,if_neg (fun h=>by omega)];rfl
 rw[zF h4,zD,if_pos ⟨h1,by omega,by omega⟩]
 obtain⟨m,rfl⟩:∃m:Nat,at_=m:=⟨at_.toNat,by omega⟩
 rw[Int.toNat_natCast,Hn style b m hb (by omega) h1,zc]
 cases hT:gT style b m with
 |inl e=>
  have he:¬e=0:=by
   unfold gT at hT
   split at hT
   ·cases hT;decide
   ·split at hT
    ·split at hT
     ·cases hT
     ·cases hT;decide
    ·cases hT
  show(bif(!(decide (e=0))) then _ else _)=_
  rw[zF he];rfl
 |inr x=>
  obtain⟨hx,di⟩:=JD h1 hT
  show(bif(!(decide ((0:Int)=0))) then _ else(Q7 (jC x)).bind _)=_
  rw[zT rfl,Bool.not_true,zD,GV _ (GY x) (zml x),zc,Jb hx,abw hx]
  by_cases ar:x<9223372036854775808
  ·rw[zT ar,zC]
   dsimp only
   rw[if_pos ar];rfl
  ·rw[zF ar,zD]
   dsimp only[rK]
   rw[Hn style b (m+cU style) hb (by omega) h1,zc,if_neg ar]
   cases hU:gT style b (m+cU style) with
   |inl e=>
    have he:¬e=0:=by
     unfold gT at hU
     split at hU
     ·cases hU;decide
     ·split at hU
      ·split at hU
       ·cases hU
       ·cases hU;decide
      ·cases hU
    show(bif(!(decide (e=0))) then _ else _)=_
    rw[zF he];rfl
   |inr y=>
    obtain⟨hy,hsy⟩:=JD h1 hU
    rw[show rK (m+cU style) style (.inr y)=(jC y,((m+cU style+cU style:Nat):Int),(0:Int)) from rfl]
    dsimp only
    rw[zT rfl,Bool.not_true,zD]
    by_cases hz:y=0
    ·rw[zT ((KW hy).2 hz),zC]
     rw[if_pos hz];rfl
    ·rw[zF (fun h=>hz ((KW hy).1 h)),zD,GV _ (GY y) (zml y),zc,Jb hy,abx hx ar]
     rw[if_neg hz];rfl
def cD(style:Int)(t:ByteArray):ByteArray:=if style=1 then pr t else t
def wB(x:Nat):ByteArray:=strOf (jC x)
theorem xr(x:Nat):bl (wB x)=jC x:=pj (zml x)
theorem AE(x:Nat):(wB x).size=8:=by unfold wB;rw[lX];rfl
theorem xy{style:Int}(x:Nat):(cD style (wB x)).size=cU style:=by
 unfold cD cU
 split
 ·rw[Ia,AE]
 ·exact AE x
def cH(style:Int)(h l:Nat):ByteArray×Int:=
 if(style=1\/style=2)/\h<9223372036854775808 then((if l=0 then cD style (wB h) else cD style (wB (h+9223372036854775808))++cD style (wB l)),0) else(bs [],1)
theorem zkw:∀a b:List Int,dg (a++b)=dg a++dg b
 | [],b=>rfl
 |x::r,b=>by rw[List.cons_append,dg,dg,zkw r b];rfl
theorem zyf(a b:ByteArray):pr (a++b)=pr a++pr b:=by
 unfold pr
 rw[uO,zkw,z8w]
theorem SM(style:Int)(a b:ByteArray):cD style (a++b)=cD style a++cD style b:=by
 unfold cD
 split
 ·exact zyf a b
 ·rfl
theorem G5{h l:Nat}(hh:h<cB):bp h l 1= !decide (h<9223372036854775808):=by
 have e:bp h l 1=h.testBit 63:=by
  unfold bp
  rw[if_pos (by decide)];rfl
 rw[e]
 rcases Nat.lt_or_ge h 9223372036854775808 with h1|h1
 ·rw[zT h1]
  exact Nat.testBit_lt_two_pow (by rw[show(2:Nat)^63=9223372036854775808 from by decide];exact h1)
 ·rw[zF (by omega),Nat.testBit_eq_decide_div_mod_eq]
  have hh:h<18446744073709551616:=hh
  exact zT (by omega)
theorem ac0{h:Nat}(hh:h<9223372036854775808):h|||9223372036854775808=h+9223372036854775808:=by
 have:=Nat.two_pow_add_eq_or_of_lt (i:=63) (b:=h) (by rw[show(2:Nat)^63=9223372036854775808 from by decide];exact hh) 1
 rw[show(2:Nat)^63=9223372036854775808 from by decide,Nat.mul_one] at this
 rw[Nat.or_comm,<-this,Nat.add_comm]
theorem zva(x:ByteArray):x++bs []=x:=by
 apply ByteArray.ext
 simp [ByteArray.data_append,bs]
theorem Yk(style:Int)(h l:Nat)(hh:h<cB)(hl:l<cB):Q6 style ((h:Int),(l:Int),())=some (cH style h l):=by
 have hk:Q9 style=some (decide (style=1\/style=2)):=by
  unfold Q9 ln
  by_cases h1:style=1
  ·rw[zT (p:=style=1\/style=2) (.inl h1),zT h1];rfl
  ·rw[zF h1,zD]
   by_cases h2:style=2
   ·rw[zT (p:=style=1\/style=2) (.inr h2),zT h2]
   ·rw[zF (p:=style=1\/style=2) (fun h=>h.elim h1 h2),zF h2]
 unfold Q6 nm cH
 rw[hk,zc]
 by_cases h1:style=1\/style=2
 case neg=>rw[zF h1,if_neg (fun h=>h1 h.1)];rfl
 rw[zT h1,Bool.not_true,zD,abA h l hh hl,zc,G5 hh]
 by_cases h2:h<9223372036854775808
 case neg=>rw[zF h2,if_neg (fun h=>h2 h.2)];rfl
 rw[zT h2,Bool.not_true,zD,if_pos ⟨h1,h2⟩]
 have hH:JR ((h:Int),(l:Int),())=some ((h:Int),(l:Int)):=rfl
 rw[hH,zc]
 dsimp only
 rw[zmm,zc]
 have z8:∀x:Nat,Nat.beq 8 (List.length (jC x))=true:=fun x=>rfl
 have fin:∀t:ByteArray,t.size<=16->(bif decide (style=1) then(iF t).bind fun r6=>some (r6,(0:Int)) else some (t,0))=some (cD style t,0):=fun t ht=>by
  unfold cD
  by_cases hs:style=1
  ·rw[zT hs,zC,zqr t (by omega),if_pos hs];rfl
  ·rw[zF hs,if_neg hs];rfl
 by_cases hz:l=0
 ·rw[zT ((KW hl).2 hz),if_pos hz,Bool.not_true,zD,zmm,zc,z8,zC]
  have di:(strOf (jC h)).size=8:=AE h
  rw[zT (by rw[di];decide),zC,zva]
  exact fin (wB h) (by rw[AE];decide)
 ·have hor:aD .or .u64 (h:Int) (9223372036854775808:Int)=((h+9223372036854775808:Nat):Int):=by
   rw[show(9223372036854775808:Int)=((9223372036854775808:Nat):Int) from rfl,uz hh (by decide),ac0 h2]
  rw[zF (fun e=>hz ((KW hl).1 e)),if_neg hz,Bool.not_false,zC,z8,zC,hor,zmm,zc,z8,zC]
  have di:∀x,(strOf (jC x)).size=8:=fun x=>AE x
  rw[zT (by rw[di,di];decide),zC,<-SM]
  exact fin (wB _++wB l) (by rw[zu,AE,AE];decide)
theorem abd(b:ByteArray){a:Nat}{style:Int}(h:a+cU style<=b.size):(b.extract a (a+cU style)).size=cU style:=uU h
theorem zmk{style:Int}{v:Nat}(hs:style=1\/style=2)(hv:v<18446744073709551616)(x y:ByteArray):gT style (x++cD style (wB v)++y) x.size= .inr v:=by
 have hz:=xy (style:=style) v
 unfold gT
 rw[if_neg (by rw[zu,zu];omega),<-hz,Nl]
 rcases hs with rfl|rfl
 ·rw[if_pos rfl]
  unfold cD
  rw[if_pos rfl,FW]
  dsimp only
  rw[if_pos rfl,xr,Jb hv]
 ·rw[if_neg (by decide)]
  unfold cD
  rw[if_neg (by decide),xr,Jb hv]
theorem zwa{style:Int}{b:ByteArray}{a v:Nat}(hs:style=1\/style=2)(h:gT style b a= .inr v):cD style (wB v)=b.extract a (a+cU style)/\v<18446744073709551616/\a+cU style<=b.size:=by
 obtain⟨h1,h2⟩:=JD hs h
 refine⟨?_,h1,h2⟩
 have hz:=abd b h2
 unfold gT at h
 rw[if_neg (by omega)] at h
 unfold cD wB
 rcases hs with rfl|rfl
 ·rw[if_pos rfl] at h⊢
  split at h
  case isFalse=>cases h
  rename_i ho
  generalize hg:jx (b.extract a (a+cU 1))=g at h ho
  obtain⟨t,i,ok⟩:=g
  dsimp only at h ho
  subst ho
  injection h with h
  have ht:=nX hg hz
  obtain⟨e1,_⟩:=BZ (l:=bl t) (by rw[zh];exact ht) fun y hy=>gP hy
  rw[<-h,e1,z49,(zfu hg).1]
 ·rw[if_neg (by decide)] at h⊢
  injection h with h
  obtain⟨e1,_⟩:=BZ (l:=bl (b.extract a (a+cU 2))) (by rw[zh];exact hz) fun y hy=>gP hy
  rw[<-h,e1,z49]
theorem zmj{style:Int}{h l:Nat}(hs:style=1\/style=2)(hh:h<9223372036854775808):cH style h l=((if l=0 then cD style (wB h) else cD style (wB (h+9223372036854775808))++cD style (wB l)),0):=by
 unfold cH
 rw[if_pos ⟨hs,hh⟩]
theorem aaY{style:Int}{h l:Nat}(hs:style=1\/style=2)(hh:h<9223372036854775808)(hl:l<18446744073709551616)(x y:ByteArray):aW style (x++(cH style h l).1++y) x.size=(h,l,((x.size+(cH style h l).1.size:Nat):Int),0):=by
 rw[zmj hs hh]
 dsimp only
 unfold aW
 rw[if_pos ⟨hs,by omega,by simp only[zu];omega⟩,Int.toNat_natCast]
 by_cases hz:l=0
 ·rw[if_pos hz,zmk hs (by omega) x y]
  dsimp only
  rw[if_pos hh,xy,hz]
 ·rw[if_neg hz]
  have e1:x++(cD style (wB (h+9223372036854775808))++cD style (wB l))++y=x++cD style (wB (h+9223372036854775808))++(cD style (wB l)++y):=by simp [ByteArray.append_assoc]
  have e2:x++(cD style (wB (h+9223372036854775808))++cD style (wB l))++y=(x++cD style (wB (h+9223372036854775808)))++cD style (wB l)++y:=by simp [ByteArray.append_assoc]
  have t1:=zmk hs (v:=h+9223372036854775808) (by omega) x (cD style (wB l)++y)
  have t2:=zmk hs hl (x++cD style (wB (h+9223372036854775808))) y
  rw[<-e1] at t1
  rw[<-e2,zu,xy] at t2
  rw[t1]
  dsimp only
  rw[if_neg (by omega),t2]
  dsimp only
  rw[if_neg hz,zu,xy,xy,show h+9223372036854775808-9223372036854775808=h by omega,Nat.add_assoc]
theorem Yl{style z:Int}{b:ByteArray}{a h l:Nat}(hg:aW style b a=(h,l,z,0)):(style=1\/style=2)/\h<9223372036854775808/\l<18446744073709551616/\(a:Int)<=z/\z<=b.size/\(cH style h l).1=b.extract a z.toNat:=by
 unfold aW at hg
 split at hg
 case isFalse=>cases hg
 rename_i hc
 obtain⟨hs,h0,h1⟩:=hc
 rw[Int.toNat_natCast] at hg
 cases hT:gT style b a with
 |inl e=>
  exfalso
  rw[hT] at hg
  have he:e=0:=by
   have:=congrArg (fun r:Nat×Nat×Int×Int=>r.2.2.2) hg
   exact this
  subst he
  unfold gT at hT
  split at hT
  ·cases hT
  ·split at hT
   ·split at hT<;>cases hT
   ·cases hT
 |inr x=>
  rw[hT] at hg
  obtain⟨e1,e2,e3⟩:=zwa hs hT
  dsimp only at hg
  split at hg
  ·rename_i ar
   injection hg with g1 g2
   injection g2 with g2 g3
   injection g3 with g3 _
   subst g1 g2 g3
   refine⟨hs,ar,by decide,by omega,by omega,?_⟩
   rw[zmj hs ar,if_pos rfl,e1,Int.toNat_natCast]
  ·rename_i J7
   cases hU:gT style b (a+cU style) with
   |inl e=>
    exfalso
    rw[hU] at hg
    have he:e=0:=by
     have:=congrArg (fun r:Nat×Nat×Int×Int=>r.2.2.2) hg
     exact this
    subst he
    unfold gT at hU
    split at hU
    ·cases hU
    ·split at hU
     ·split at hU<;>cases hU
     ·cases hU
   |inr y=>
    rw[hU] at hg
    obtain⟨f1,f2,f3⟩:=zwa hs hU
    dsimp only at hg
    split at hg
    ·exfalso
     have:=congrArg (fun r:Nat×Nat×Int×Int=>r.2.2.2) hg
     cases this
    ·rename_i hz
     injection hg with g1 g2
     injection g2 with g2 g3
     injection g3 with g3 _
     subst g1 g2 g3
     refine⟨hs,by omega,f2,by omega,by omega,?_⟩
     rw[zmj hs (by omega),if_neg hz,show x-9223372036854775808+9223372036854775808=x by omega,e1,f1,Int.toNat_natCast]
     exact G1 _ (by omega) (by omega)
end bn

set_option maxRecDepth 10000
namespace bn
open Go.IntKind renaming wrap->zW,i64->zI,u8->zU
open Go Go.Ref
@[irreducible] def pL (x base m:Nat):List Int:=((List.range m).filter fun k=>x.testBit (63-k)).map fun k=>((base+k:Nat):Int)
theorem abp(x base m:Nat):pL x base (m+1)=if x.testBit (63-m)=true then pL x base m++ [((base+m:Nat):Int)] else pL x base m:=by
 unfold pL
 rw[List.range_succ,List.filter_append,List.map_append]
 split
 ·rename_i h;rw[List.filter_cons_of_pos (by exact h)];rfl
 ·rename_i h;rw[List.filter_cons_of_neg (by exact h)];simp
theorem zX(x base m:Nat):(pL x base m).length<=m:=by
 unfold pL
 rw[List.length_map]
 exact Nat.le_trans (List.length_filter_le _ _) (by rw[List.length_range];exact Nat.le_refl _)
theorem zko(h l:Nat):elems h l=pL h 1 64++pL l 65 64:=by
 unfold elems lP pL
 rw[List.filter_map,show(128:Nat)=64+64 from rfl,List.range_add,List.filter_append,List.map_append,List.filter_map,List.map_map]
 congr 1
 ·have:(List.range 64).filter (bp h l∘fun k:Nat=>((k+1:Nat):Int))=(List.range 64).filter fun k=>h.testBit (63-k):=List.filter_congr fun k hk=>by
   have hk:=List.mem_range.1 hk
   show bp h l ((k+1:Nat):Int)=_
   unfold bp
   rw[if_pos (by omega),show(64-((k+1:Nat):Int)).toNat=63-k by omega]
  rw[this]
  apply List.map_congr_left
  intro k _
  rw[Nat.add_comm]
 ·have:(List.range 64).filter ((bp h l∘fun k:Nat=>((k+1:Nat):Int))∘fun k=>64+k)=(List.range 64).filter fun k=>l.testBit (63-k):=List.filter_congr fun k hk=>by
   have hk:=List.mem_range.1 hk
   show bp h l ((64+k+1:Nat):Int)=_
   unfold bp
   rw[if_neg (by omega),if_pos (by omega),show(128-((64+k+1:Nat):Int)).toNat=63-k by omega]
  rw[this]
  apply List.map_congr_left
  intro k _
  show((64+k+1:Nat):Int)=_
  rw[show 64+k+1=65+k by omega]
def yV(k:Nat):Nat:=if k<8 then 2^(7-k) else 0
theorem Ec:∀c:Fin 256,∀k:Fin 8,(yV k.1=2^(7-k.1))/\(decide ((yV k.1:Int)<=((c.1 % 2^(8-k.1):Nat):Int))=c.1.testBit (7-k.1))/\(c.1.testBit (7-k.1)=true->zW zU (((c.1 % 2^(8-k.1):Nat):Int)-(yV k.1:Int))=((c.1 % 2^(8-(k.1+1)):Nat):Int))/\(c.1.testBit (7-k.1)=false->c.1 % 2^(8-k.1)=c.1 % 2^(8-(k.1+1)))/\zW zU (Int.tdiv (yV k.1:Int) 2)=(yV (k.1+1):Int):=by decide+kernel
theorem FF(x i k:Nat)(hi:i<8)(hk:k<8):(x/2^(56-8*i)% 256).testBit (7-k)=x.testBit (63-(8*i+k)):=by
 rw[show(256:Nat)=2^8 from rfl,Nat.testBit_mod_two_pow,zT (by omega),Bool.true_and,Nat.testBit_div_two_pow]
 congr 1
 omega
theorem Hj(x:Nat)(t:ByteArray)(base i:Nat)(hi:i<8)(iX:base<=65):∀(m k K:Nat),k+m=8->m<K->
 AP K (base:Int) t (pL x base (8*i+k)) (i:Int) ((x/2^(56-8*i)% 256 % 2^(8-k):Nat):Int) (yV k:Int) (k:Int)=some ((base:Int),t,pL x base (8*i+8),(i:Int))
 |m,k,0,_,hK=>by omega
 |0,k,K+1,hk,hK=>by
  have:k=8:=by omega
  subst this
  unfold AP Ju
  rw[zF (by omega)];rfl
 |m+1,k,K+1,hk,hK=>by
  have P8:k<8:=by omega
  have hc:x/2^(56-8*i)% 256<256:=Nat.mod_lt _ (by decide)
  obtain⟨b1,b2,b3,b4,b5⟩:=Ec ⟨_,hc⟩ ⟨k,P8⟩
  simp only at b1 b2 b3 b4 b5
  have ih:=Hj x t base i hi iX m (k+1) K (by omega) (by omega)
  have hl:=zX x base (8*i+k)
  have e1:zW zI ((8:Int)*(i:Int))=((8*i:Nat):Int):=by rw[zg (by omega) (by omega)];omega
  have e2:zW zI ((base:Int)+((8*i:Nat):Int))=((base+8*i:Nat):Int):=by rw[zg (by omega) (by omega)];omega
  have e3:zW zI (((base+8*i:Nat):Int)+(k:Int))=((base+(8*i+k):Nat):Int):=by rw[zg (by omega) (by omega)];omega
  unfold AP Ju
  rw[zT (by omega),zC,b2,e1,e2,e3,b5,zw (by omega),FF x i k hi P8]
  have ps:=abp x base (8*i+k)
  rw[Nat.add_assoc] at ps
  have yy:=FF x i k hi P8
  cases hb:x.testBit (63-(8*i+k)) with
  |true=>
   rw[hb] at ps yy
   rw[if_pos rfl] at ps
   rw[zC,zT (by simp only[List.length_singleton];omega),zC,b3 yy]
   dsimp only
   rw[<-ps]
   exact ih
  |false=>
   rw[hb] at ps yy
   rw[if_neg (by decide)] at ps
   rw[zD,b4 yy]
   dsimp only
   rw[<-ps]
   exact ih
theorem Gb(x:Nat)(t:ByteArray)(ht:t.size=8)(dx:∀i,i<8->ze t i=((x/2^(56-8*i)% 256:Nat):Int))(base:Nat)(iX:base<=65):∀(m i K:Nat),i+m=8->m<K->
 xI K (base:Int) t (pL x base (8*i)) (i:Int)=some (pL x base 64)
 |m,i,0,_,hK=>by omega
 |0,i,K+1,hi,hK=>by
  have:i=8:=by omega
  subst this
  unfold xI Jt
  rw[zF (by omega)];rfl
 |m+1,i,K+1,hi,hK=>by
  have h1:=Hj x t base i (by omega) iX 8 0 ag (by omega) (by rw[zr];omega)
  have e0:x/2^(56-8*i)% 256 % 2^(8-0)=x/2^(56-8*i)% 256:=Nat.mod_mod _ _
  rw[e0,show(yV 0:Int)=128 from rfl,Nat.add_zero] at h1
  unfold xI Jt
  rw[zT (by omega),zC,zi (by omega),Int.toNat_natCast,dx i (by omega)]
  dsimp only
  rw[show(0:Int)=((0:Nat):Int) from rfl,h1,zc]
  unfold O4
  dsimp only
  rw[zw (by omega)]
  exact Gb x t ht dx base iX m (i+1) K (by omega) (by omega)
theorem aaZ{t:ByteArray}(ht:t.size=8):∀i,i<8->ze t i=((fh (bl t)/2^(56-8*i)% 256:Nat):Int):=by
 intro i hi
 have hl:(bl t).length=8:=by rw[zh];exact ht
 have h:=(BZ hl fun y hy=>gP hy).1
 have e:(bl t).getD i 0=(jC (fh (bl t))).getD i 0:=congrArg (fun l=>List.getD l i 0) h.symm
 rw[kW,e]
 generalize fh (bl t)=v
 match i,hi with
 |0,_=>rfl
 |1,_=>rfl
 |2,_=>rfl
 |3,_=>rfl
 |4,_=>rfl
 |5,_=>rfl
 |6,_=>rfl
 |7,_=>show((v % 256:Nat):Int)=((v/1 % 256:Nat):Int);rw[Nat.div_one]
def xg(base:Nat):Sum Int Nat->List Int×Int
 | .inl e=>([],e)
 | .inr x=>(pL x base 64,0)
theorem z154(style:Int)(b:ByteArray)(a base:Nat)(hb:b.size<=1099511627776)(ha:a<=b.size)(hs:style=1\/style=2)(iX:base<=65):nv style b a base=some (xg base (gT style b a)):=by
 have w0:zW zI ((b.size:Int)-(a:Int))=(b.size:Int)-a:=zg (by omega) (by omega)
 have w8:zW zI ((a:Int)+8)=((a+8:Nat):Int):=by rw[zg (by omega) (by omega)];omega
 have R8:zW zI ((a:Int)+16)=((a+16:Nat):Int):=by rw[zg (by omega) (by omega)];omega
 have go:∀t:ByteArray,t.size=8->((xI ag (base:Int) t [] 0).bind fun e=>O3 e (fun a0 a1=>some (a0,a1)))=some (pL (fh (bl t)) base 64,0):=fun t ht=>by
  have:=Gb (fh (bl t)) t ht (aaZ ht) base iX 8 0 ag (by omega) (by rw[zr];omega)
  rw[show pL (fh (bl t)) base (8*0)=[] from by unfold pL;rfl,show((0:Nat):Int)=0 from rfl] at this
  rw[this];rfl
 unfold nv B7 gT cU
 rcases hs with rfl|rfl
 ·simp only[Int.reduceEq,decide_true,zC,w0,R8,if_true,Int.toNat_natCast]
  split
  ·rename_i hc
   rw[zT (by omega)];rfl
  ·rename_i hc
   rw[zF (by omega),zD,zT (by omega),zC,zT (by omega),zC,zT (by omega),zC,zT (by omega),zC,zyo _ (by rw[ByteArray.size_extract];omega),zc]
   generalize hg:jx (b.extract a (a+16))=g
   obtain⟨t,i,ok⟩:=g
   cases ok with
   |false=>rfl
   |true=>
    have ht:=nX hg (uU (by omega))
    dsimp only
    rw[Bool.not_true,zD,if_pos rfl,go t ht]
    rfl
 ·simp only[Int.reduceEq,decide_false,zD,w0,w8,if_false,Int.toNat_natCast]
  split
  ·rename_i hc
   rw[zT (by omega)];rfl
  ·rename_i hc
   rw[zF (by omega),zD,zT (by omega),zC,zT (by omega),zC,zT (by omega),zC,zT (by omega),zC,go _ (uU (by omega))]
   rfl
theorem Ni{style e:Int}{b:ByteArray}{a:Nat}(h:gT style b a= .inl e):e≠0:=by
 unfold gT at h
 split at h
 ·cases h;decide
 ·split at h
  ·split at h
   ·cases h
   ·cases h;decide
  ·cases h
theorem z152(base m:Nat):pL 0 base m=[]:=by
 unfold pL
 rw[List.filter_eq_nil_iff.2 (fun k _=>by simp)];rfl
theorem Hh(x:Nat)(hx:x<18446744073709551616):(x<9223372036854775808->∀y∈pL x 1 64,y≠1)/\(¬x<9223372036854775808->pL x 1 64=1::pL (x-9223372036854775808) 1 64):=by
 refine⟨fun h y hy e=> ?_,fun h=> ?_⟩
 ·unfold pL at hy
  obtain⟨k,hk,rfl⟩:=List.mem_map.1 hy
  obtain⟨h1,h2⟩:=List.mem_filter.1 hk
  have:k=0:=by omega
  subst this
  have:x.testBit 63=false:=Nat.testBit_lt_two_pow (by rw[show(2:Nat)^63=9223372036854775808 from by decide];exact h)
  rw[Nat.sub_zero,this] at h2;cases h2
 ·have hm:x-9223372036854775808=x % 2^63:=by rw[show(2:Nat)^63=9223372036854775808 from by decide];omega
  have t1:x.testBit 63=true:=by rw[Nat.testBit_eq_decide_div_mod_eq];exact zT (by omega)
  have t2:(x % 2^63).testBit 63=false:=by rw[Nat.testBit_mod_two_pow];rfl
  rw[hm]
  unfold pL
  rw[show(64:Nat)=63+1 from rfl,List.range_succ_eq_map,List.filter_cons_of_pos (by exact t1),List.filter_cons_of_neg (by rw[Nat.sub_zero,t2];decide),List.map_cons]
  have hf:List.filter (fun k=>x.testBit (63-k)) ((List.range 63).map Nat.succ)=List.filter (fun k=>(x % 2^63).testBit (63-k)) ((List.range 63).map Nat.succ):=by
   apply List.filter_congr
   intro k hk
   obtain⟨j,hj,rfl⟩:=List.mem_map.1 hk
   have hj:=List.mem_range.1 hj
   rw[Nat.testBit_mod_two_pow,zT (by omega),Bool.true_and]
  rw[hf]
  rfl
theorem qz{α:Type}{p:Prop}[Decidable p](h:p){x y:α}:(bif decide p then x else y)=x:=by rw[zT h];rfl
theorem qy{α:Type}{p:Prop}[Decidable p](h:¬p){x y:α}:(bif decide p then x else y)=y:=by rw[zF h];rfl
theorem AR{α:Type}{p:Prop}[Decidable p](h:p){x y:α}:(bif !decide p then x else y)=y:=by rw[zT h];rfl
theorem Cg{α:Type}{p:Prop}[Decidable p](h:¬p){x y:α}:(bif !decide p then x else y)=x:=by rw[zF h];rfl
def er(r:Nat×Nat×Int×Int):List Int×Int×Int:=if r.2.2.2=0 then(elems r.1 r.2.1,r.2.2.1,0) else([],0,r.2.2.2)
theorem FP(h l:Nat)(z:Int):er (h,l,z,0)=(elems h l,z,0):=by
 unfold er
 simp only[if_true]
theorem zfr{e:Int}(he:e≠0):er (qA e)=([],0,e):=by
 unfold er qA
 simp only[he,if_false]
def rZ(P2:Option (List Int×Int))(z1 z2:Int)(r1:List Int×Int):Option (List Int×Int×Int):=(bif(!(decide (r1.2=(0:Int)))) then some (([]:List Int),(0:Int),r1.2) else(bif(decide (((List.length r1.1):Int)=(0:Int))) then some (r1.1,z1,(0:Int)) else(zd (0:Int) (List.length r1.1) (bif(!(decide ((List.getD r1.1 ((0:Int)).toNat (0:Int))=(1:Int)))) then some (r1.1,z1,(0:Int)) else(P2.bind fun r2=>(bif(!(decide (r2.2=(0:Int)))) then some (([]:List Int),(0:Int),r2.2) else(bif(decide (((List.length r2.1):Int)=(0:Int))) then some (([]:List Int),(0:Int),(8:Int)) else(bif(decide ((1:Int)<=(((List.length r1.1):Nat):Int))) then(bif(decide (((List.length ([]:List Int))+(List.length (List.drop ((1:Int)).toNat (List.take (List.length r1.1) r1.1))))*8<=140737488355328)) then(bif(decide (((List.length (([]:List Int)++(List.drop ((1:Int)).toNat (List.take (List.length r1.1) r1.1))))+(List.length r2.1))*8<=140737488355328)) then some (((([]:List Int)++(List.drop ((1:Int)).toNat (List.take (List.length r1.1) r1.1)))++r2.1),z2,(0:Int)) else none) else none) else none))))))))
theorem Zw{P2:Option (List Int×Int)}{z1 z2 e:Int}(he:e≠0):rZ P2 z1 z2 ([],e)=some ([],0,e):=Cg he
theorem TQ{P2:Option (List Int×Int)}{z1 z2:Int}{l:List Int}(h:∀y∈l,y≠1):rZ P2 z1 z2 (l,0)=some (l,z1,0):=by
 refine(AR (p:=(0:Int)=0) rfl).trans ?_
 cases l with
 |nil=>rfl
 |cons y r=>
  refine(qy (by simp only[List.length_cons];omega)).trans ?_
  refine(show zd (0:Int) (r.length+1) _=_ from zi (j:=0) (by omega)).trans ?_
  exact Cg (h y List.mem_cons_self)
theorem zlb{r2:List Int×Int}{z1 z2:Int}{l:List Int}:rZ (some r2) z1 z2 (1::l,0)=bif(!(decide (r2.2=(0:Int)))) then some (([]:List Int),(0:Int),r2.2) else bif decide (((List.length r2.1):Int)=(0:Int)) then some (([]:List Int),(0:Int),(8:Int)) else(bif(decide ((1:Int)<=(((List.length ((1:Int)::l)):Nat):Int))) then(bif(decide (((List.length ([]:List Int))+(List.length (List.drop ((1:Int)).toNat (List.take (List.length ((1:Int)::l)) ((1:Int)::l)))))*8<=140737488355328)) then(bif(decide (((List.length (([]:List Int)++(List.drop ((1:Int)).toNat (List.take (List.length ((1:Int)::l)) ((1:Int)::l)))))+(List.length r2.1))*8<=140737488355328)) then some (((([]:List Int)++(List.drop ((1:Int)).toNat (List.take (List.length ((1:Int)::l)) ((1:Int)::l))))++r2.1),z2,(0:Int)) else none) else none) else none):=by
 refine(AR (p:=(0:Int)=0) rfl).trans ?_
 refine(qy (by simp only[List.length_cons];omega)).trans ?_
 refine(show zd (0:Int) (l.length+1) _=_ from zi (j:=0) (by omega)).trans ?_
 exact AR (p:=(1:Int)=1) rfl
theorem WC{z1 z2 e:Int}{l:List Int}(he:e≠0):rZ (some ([],e)) z1 z2 (1::l,0)=some ([],0,e):=zlb.trans (Cg he)
theorem WD{z1 z2:Int}{l:List Int}:rZ (some ([],0)) z1 z2 (1::l,0)=some ([],0,8):=zlb.trans rfl
theorem WB{z1 z2:Int}{l l2:List Int}(h:l2≠ [])(h1:l.length<=64)(h2:l2.length<=64):rZ (some (l2,0)) z1 z2 (1::l,0)=some (l++l2,z2,0):=by
 have hlen:l2.length≠0:=fun e=>h (List.length_eq_zero_iff.1 e)
 refine zlb.trans ?_
 refine(AR (p:=(0:Int)=0) rfl).trans ?_
 refine(qy (by dsimp only;omega)).trans ?_
 refine(qz (by simp only[List.length_cons];omega)).trans ?_
 have Ep:List.drop ((1:Int)).toNat ((1:Int)::l)=l:=rfl
 simp only[List.take_length,Ep,List.nil_append]
 refine(qz (by simp only[List.length_nil];omega)).trans ?_
 exact qz (by omega)
theorem abo{y:Nat}(hy:y<18446744073709551616)(hz:y≠0):pL y 65 64≠ []:=fun e=>hz (by
 have:(∀i,y.testBit i=false):=fun i=>by
  by_cases hi:i<64
  ·cases qI:y.testBit i with
   |false=>rfl
   |true=>
    have:((65+(63-i):Nat):Int)∈pL y 65 64:=by
     unfold pL
     exact List.mem_map.2 ⟨63-i,List.mem_filter.2 ⟨List.mem_range.2 (by omega),by rw[show 63-(63-i)=i by omega];exact qI⟩,rfl⟩
    rw[e] at this;cases this
  ·exact Nat.testBit_lt_two_pow (Nat.lt_of_lt_of_le hy (by rw[show(18446744073709551616:Nat)=2^64 from by decide];exact Nat.pow_le_pow_right (by decide) (by omega)))
 exact Nat.eq_of_testBit_eq fun i=>by rw[this i,Nat.zero_testBit])
theorem HU(style:Int)(b:ByteArray)(hb:b.size<=1099511627776)(m:Nat)(hm:m<=b.size)(hs:style=1\/style=2):((nv style b m (1:Int)).bind fun r1=>rZ (nv style b ((m+cU style:Nat):Int) (65:Int)) ((m+cU style:Nat):Int) ((m+cU style+cU style:Nat):Int) r1)=some (er (match gT style b m with
 | .inl e=>qA e
 | .inr x=>if x<9223372036854775808 then(x,0,((m+cU style:Nat):Int),0) else
   match gT style b (m+cU style) with
   | .inl e=>qA e
   | .inr y=>if y=0 then qA 8 else(x-9223372036854775808,y,((m+cU style+cU style:Nat):Int),0))):=by
 have p1:=z154 style b m 1 hb hm hs (by decide)
 rw[show((1:Nat):Int)=1 from rfl] at p1
 refine(congrArg (fun z=>Option.bind z _) p1).trans ?_
 cases hT:gT style b m with
 |inl e=>exact(Zw (Ni hT)).trans (congrArg some (zfr (Ni hT)).symm)
 |inr x=>
  obtain⟨hx,oZ⟩:=JD hs hT
  by_cases ar:x<9223372036854775808
  ·simp only[ar,if_true]
   have dF:elems x 0=pL x 1 64:=by rw[zko,z152,List.append_nil]
   exact(TQ ((Hh x hx).1 ar)).trans (congrArg some (by rw[FP,dF]))
  ·simp only[ar,if_false]
   have ph:=(Hh x hx).2 ar
   have p2:=z154 style b (m+cU style) 65 hb (by omega) hs (by decide)
   rw[show((65:Nat):Int)=65 from rfl] at p2
   have dF:=zko (x-9223372036854775808)
   have mK:=zX (x-9223372036854775808) 1 64
   generalize x-9223372036854775808=x' at ph dF mK
   refine(congrArg (fun z=>rZ z _ _ _) p2).trans ?_
   refine(congrArg (fun z=>rZ _ _ _ (z,0)) ph).trans ?_
   cases hU:gT style b (m+cU style) with
   |inl e=>exact(WC (Ni hU)).trans (congrArg some (zfr (Ni hU)).symm)
   |inr y=>
    obtain⟨hy,pG⟩:=JD hs hU
    by_cases hz:y=0
    ·simp only[hz,if_true]
     have e0:xg 65 (.inr 0)=([],0):=by
      show(pL 0 65 64,(0:Int))=_
      rw[z152]
     refine(congrArg (fun z=>rZ (some z) _ _ _) e0).trans ?_
     exact WD.trans (congrArg some (zfr (by decide)).symm)
    ·simp only[hz,if_false]
     exact(WB (abo hy hz) mK (zX y 65 64)).trans (congrArg some (by rw[FP,dF]))
theorem WE(style:Int)(b:ByteArray)(at_:Int)(hb:b.size<=1099511627776):s4 style b at_=some (er (aW style b at_)):=by
 unfold s4 O0 aW
 by_cases h0:at_<0
 ·rw[zT h0,if_neg (fun h=>by omega)]
  by_cases h1:style=1<;>by_cases h2:style=2<;>simp [h1,h2,er,qA]
 by_cases h9:(b.size:Int)<at_
 ·rw[zF h0,zT h9,if_neg (fun h=>by omega)]
  by_cases h1:style=1<;>by_cases h2:style=2<;>simp [h1,h2,er,qA]
 obtain⟨m,rfl⟩:∃m:Nat,at_=m:=⟨at_.toNat,by omega⟩
 rw[zF h0,zF h9]
 have wr:∀z:Nat,z<=64->zW zI ((m:Int)+(z:Int))=((m+z:Nat):Int):=fun z hz=>by rw[zg (by omega) (by omega)];omega
 by_cases h1:style=1
 ·rw[zT h1,if_pos ⟨.inl h1,by omega,by omega⟩,Int.toNat_natCast]
  have hz:cU style=16:=by rw[h1];rfl
  have:=HU style b hb m (by omega) (.inl h1)
  rw[show m+cU style+cU style=m+32 by omega,hz,<-wr 16 (by decide),<-wr 32 (by decide)] at this
  rw[show m+cU style+cU style=m+32 by omega,hz,<-wr 16 (by decide),<-wr 32 (by decide)]
  exact this
 ·by_cases h2:style=2
  ·rw[zF h1,zT h2,if_pos ⟨.inr h2,by omega,by omega⟩,Int.toNat_natCast]
   have hz:cU style=8:=by rw[h2];rfl
   have:=HU style b hb m (by omega) (.inr h2)
   rw[show m+cU style+cU style=m+16 by omega,hz,<-wr 8 (by decide),<-wr 16 (by decide)] at this
   rw[show m+cU style+cU style=m+16 by omega,hz,<-wr 8 (by decide),<-wr 16 (by decide)]
   exact this
  ·rw[zF h1,zF h2,if_neg (fun h=>h.1.elim h1 h2)];rfl
theorem acY(l:List Int):decide ((1:Int)∈l)= !decide (cg l<9223372036854775808):=by
 rw[<-G5 (l:=cn l) (pK l),BW]
 unfold gX
 rw[zT (p:=(1:Int)<=1/\(1:Int)<=128) (by decide),Bool.and_true]
def zt(m:ByteArray):Bool:=decide ((m.size:Int)=4)&&aX (bl m)
theorem oc{m:ByteArray}:zt m=true↔m.size=4/\aX (bl m)=true:=by
 unfold zt
 rw[Bool.and_eq_true,decide_eq_true_eq]
 constructor<;>intro h<;>exact⟨by omega,h.2⟩
theorem z9m(m:ByteArray)(h:m.size<=maxLen):mu m=some (zt m):=by
 unfold mu LP zt
 cases decide ((m.size:Int)=4) with
 |false=>rfl
 |true=>rw[zC,Nx m h];rfl
theorem zq1(m:ByteArray)(h:m.size<=maxLen):jy m=some (zt m):=by
 unfold jy Ld zt
 cases decide ((m.size:Int)=4) with
 |false=>rfl
 |true=>rw[zC,zyj m h];rfl
theorem sK{m:ByteArray}(h:zt m=true)(i:Nat)(hi:i<4):48<=ze m i/\ze m i<=57:=by
 obtain⟨h1,h2⟩:=oc.1 h
 have hl:i<(bl m).length:=by rw[zh];omega
 have:=List.all_eq_true.1 h2 _ (List.getElem_mem hl)
 rw[kW,List.getD_eq_getElem?_getD,List.getElem?_eq_getElem hl]
 exact of_decide_eq_true this
def c8(m:ByteArray):Int:=bif zt m then ze m 0-48 else 0
def cT(m:ByteArray):Bool:=zt m&&(decide (ze m 2=48)||decide (ze m 2=50))
theorem KA(m:ByteArray)(h:m.size<=maxLen):ic m=some (c8 m,zt m):=by
 unfold ic LQ c8
 rw[z9m m h,Option.bind_some]
 cases hr:zt m with
 |false=>rfl
 |true=>
  obtain⟨h1,_⟩:=oc.1 hr
  have:=sK hr 0 (by omega)
  simp only[Bool.not_true,zD,zC]
  rw[zm (by omega) (by omega),show(0:Int).toNat=0 from rfl,rP (by omega) (by omega),zg (by omega) (by omega)]
theorem zbh(m:ByteArray)(h:m.size<=maxLen):mr m=some (cT m):=by
 unfold mr LN cT
 rw[z9m m h,Option.bind_some]
 cases hr:zt m with
 |false=>rfl
 |true=>
  obtain⟨h1,_⟩:=oc.1 hr
  rw[zC,zm (by omega) (by omega),zm (by omega) (by omega),show(2:Int).toNat=2 from rfl]
  cases decide (ze m 2=48)<;>rfl
theorem Sd(m:ByteArray)(h:m.size<=maxLen):oo m=some (cT m):=by
 unfold oo Lc cT
 rw[zlc m h,Option.bind_some]
 unfold cE
 by_cases h4:m.size=4
 ·cases hd:aX (bl m) with
  |false=>
   rw[if_neg (by simp)]
   have:zt m=false:=by unfold zt;rw[hd,Bool.and_false]
   rw[this];rfl
  |true=>
   have hr:zt m=true:=oc.2 ⟨h4,hd⟩
   rw[if_pos ⟨by rw[zh];omega,by rw[zh];omega,rfl⟩,hr]
   dsimp only
   rw[zC,zT (by omega),zC,Bool.true_and]
   have hl:(bl m).length=4:=by rw[zh,h4]
   obtain⟨d0,d1,d2,d3,hb⟩:∃d0 d1 d2 d3,bl m=[d0,d1,d2,d3]:=by
    match hm:bl m,hl with
    | [d0,d1,d2,d3],_=>exact⟨d0,d1,d2,d3,rfl⟩
   have h0:=sK hr 0 (by omega)
   have h1:=sK hr 1 (by omega)
   have h2:=sK hr 2 (by omega)
   have h3:=sK hr 3 (by omega)
   rw[kW,hb] at h0 h1 h2 h3
   rw[kW,hb]
   simp only[List.getD_cons_zero,List.getD_cons_succ] at h0 h1 h2 h3⊢
   have hv:dI [d0,d1,d2,d3] 0=1000*(d0-48)+100*(d1-48)+10*(d2-48)+(d3-48):=by
    simp only[dI,List.foldl_cons,List.foldl_nil];omega
   have hq:Int.tmod (zW zI (Int.tdiv (dI [d0,d1,d2,d3] 0) 10)) 10=d2-48:=by
    rw[hv,Int.tdiv_eq_ediv_of_nonneg (by omega),zg (by omega) (by omega),Int.tmod_eq_emod_of_nonneg (by omega)]
    omega
   rw[hq]
   by_cases e1:d2=48
   ·rw[zT e1,zT (by omega:d2-48=0)];rfl
   ·rw[zF e1,zF (by omega:¬d2-48=0),zD,Bool.false_or]
    congr 1
    exact decide_eq_decide.2 (by omega)
 ·have:zt m=false:=by
   unfold zt
   rw[zF (by omega),Bool.false_and]
  rw[this]
  cases(if 1<=(bl m).length/\(bl m).length<=18/\aX (bl m)=true then(dI (bl m) 0,true) else((0:Int),false)).2 with
  |false=>rfl
  |true=>rw[zC,zF (by omega)];rfl
def lV(m:ByteArray)(v:Int):Bool:=zt m&&decide (ze m 0-48=v)
def xP(p:bG)(a b:zf):Bool:=lV p.1 a.2.1&&(lV p.2.1 b.2.1&&(cT p.1==cT p.2.1))
theorem Zm(p:bG)(a b:zf)(h1:p.1.size<=maxLen)(h2:p.2.1.size<=maxLen):mC p a b=some (xP p a b):=by
 unfold mC Nd xP lV
 rw[KA _ h1,KA _ h2,zbh _ h1,zbh _ h2]
 simp only[Option.bind_some]
 unfold c8
 cases zt p.1 with
 |false=>rfl
 |true=>
  cases zt p.2.1 with
  |false=>simp
  |true=>
   simp only[zC,Bool.true_and]
   cases decide (ze p.1 0-48=a.2.1) with
   |false=>rfl
   |true=>
    cases decide (ze p.2.1 0-48=b.2.1) with
    |false=>rfl
    |true=>rfl
abbrev bd:=ByteArray×List aQ×Unit
abbrev bu:=Int×Int×Unit
abbrev kI:aQ:=(0,bs [],())
abbrev fB:bu:=(0,0,())
structure dc(m:bd):Prop where
 n4:m.1.size<=9223372036854775807
 len:m.2.1.length<=1000000
 me:∀v∈m.2.1,v.2.1.size<=1099511627776
def dN(l:List aQ)(no:Int):List aQ:=l.filter fun v=> !decide (v.1=no)
theorem zwo(l:List aQ)(no:Int):(dN l no).length<=l.length:=List.length_filter_le _ _
theorem z9o(no:Int)(fin:bd×bd->Option (bd×bd)):∀(l:List aQ) (i:Int) (s:bd×bd),s.2.2.1.length+l.length<=1000000000->
 bj (fun i (x:aQ) (s:bd×bd) K=>(bif(!(decide (x.1=no))) then(bif(decide ((s.2.2.1.length+(List.length ([x]:List aQ)))*24<=140737488355328)) then K (s.1,(s.2.1,(s.2.2.1++([x]:List aQ)),())) else none) else K s)) fin l i s=fin (s.1,(s.2.1,s.2.2.1++dN l no,()))
 | [],i,s,_=>by
   show fin s=_
   simp [dN]
 |x::r,i,s,h=>by
  simp only[List.length_cons] at h
  rw[bj]
  by_cases hx:x.1=no
  ·rw[zT hx,Bool.not_true,zD]
   refine(z9o no fin r (i+1) s (by omega)).trans ?_
   simp [dN,hx]
  ·rw[zF hx,Bool.not_false,zC,zT (by simp only[List.length_singleton];omega),zC]
   refine(z9o no fin r (i+1) (s.1,(s.2.1,s.2.2.1++ [x],())) (by simp only[List.length_append,List.length_singleton];omega)).trans ?_
   simp [dN,hx]
theorem Sy(m:bd)(no:Int)(h:m.2.1.length<=1000000):p5 m no=some (m.1,dN m.2.1 no,()):=by
 unfold p5 LM
 dsimp only
 have:=cf kI m.2.1 (by rw[zj];omega) (fun i (x:aQ) (s:bd×bd) K=>(bif(!(decide (x.1=no))) then(bif(decide ((s.2.2.1.length+(List.length ([x]:List aQ)))*24<=140737488355328)) then K (s.1,(s.2.1,(s.2.2.1++([x]:List aQ)),())) else none) else K s)) (fun s=>some s)
  (fun k i s=>IK k no m.2.1 (m.2.1.length:Int) i s.1 s.2) (fun k i s=>rfl) ((bs [],[],()),(m.1,[],()))
 rw[this,z9o no _ _ _ _ (by simp;omega)]
 rfl
def bL(no:Int):List aQ->Int->Int
 | [],_=> -1
 |x::r,i=>if no<x.1 then i else bL no r (i+1)
theorem Ib(no:Int):∀(l:List aQ) (i:Int),0<=i->(bL no l i= -1/\∀x∈l,x.1<=no)\/(i<=bL no l i/\bL no l i<i+l.length)
 | [],i,h=> .inl ⟨rfl,fun x hx=>by cases hx⟩
 |x::r,i,h=>by
  unfold bL
  by_cases hx:no<x.1
  ·rw[if_pos hx];right;simp only[List.length_cons];omega
  ·rw[if_neg hx]
   rcases Ib no r (i+1) (by omega) with⟨h1,h2⟩|h1
   ·left
    refine⟨h1,fun y hy=> ?_⟩
    rcases List.mem_cons.1 hy with rfl|hy
    ·omega
    ·exact h2 y hy
   ·right;simp only[List.length_cons];omega
def PO(r no:Int):Sum (Int×Int) Int:=bif decide (r<0) then .inr no else .inl (r,no)
theorem zx9(no:Int):∀(l:List aQ) (i:Int),0<=i->bj (fun i (x:aQ) (s:Int) K=>((pZ x s).bind fun r1=>(bif r1.1 then some (Sum.inl (i,r1.2)) else K r1.2))) (fun s=>some (Sum.inr s)) l i no=some (PO (bL no l i) no)
 | [],i,h=>rfl
 |x::r,i,h=>by
  rw[bj,bL]
  show(bif decide (no<x.1) then some (Sum.inl (i,no)) else bj _ _ r (i+1) no)=_
  by_cases hx:no<x.1
  ·rw[zT hx,zC,if_pos hx]
   unfold PO
   rw[zF (by omega)];rfl
  ·rw[zF hx,zD,if_neg hx]
   exact zx9 no r (i+1) (by omega)
theorem S6(l:List aQ)(no:Int)(h:l.length<=1000000):qj l no=some (bL no l 0,no):=by
 unfold qj Mu
 dsimp only
 have:=cf kI l (by rw[zj];omega) (fun i (x:aQ) (s:Int) K=>((pZ x s).bind fun r1=>(bif r1.1 then some (Sum.inl (i,r1.2)) else K r1.2))) (fun s=>some (Sum.inr s))
  (fun k i s=>I0 k l (l.length:Int) i s) (fun k i s=>rfl) no
 rw[this,zx9 no l 0 (Int.le_refl _),zc]
 unfold PO
 rcases Ib no l 0 (Int.le_refl _) with⟨h1,_⟩|h1
 ·rw[h1];rfl
 ·rw[zF (by omega)];rfl
theorem V2(old:List aQ)(at_:Nat)(v d:aQ)(h:at_<=old.length):
 bC (List.set (bC (List.replicate (old.length+1) d) (List.take (old.length+1) (List.drop 0 (List.take at_ old))) 0) at_ v) (List.take (old.length+1-(at_+1)) (List.drop at_ (List.take old.length old))) (at_+1)=old.take at_++v::old.drop at_:=by
 have e1:List.take (old.length+1) (List.drop 0 (List.take at_ old))=old.take at_:=by
  rw[List.drop_zero,List.take_take,Nat.min_eq_right (by omega)]
 have e2:List.take (old.length+1-(at_+1)) (List.drop at_ (List.take old.length old))=old.drop at_:=by
  rw[List.take_length,List.take_of_length_le (by rw[List.length_drop];omega)]
 rw[e1,e2]
 have hl:(old.take at_).length=at_:=by rw[List.length_take];omega
 have e3:bC (List.replicate (old.length+1) d) (old.take at_) 0=old.take at_++List.replicate (old.length+1-at_) d:=by
  unfold bC
  rw[List.take_zero,List.nil_append,hl,Nat.zero_add,List.drop_replicate]
 obtain⟨n,hn⟩:∃n,old.length+1-at_=n+1:=⟨old.length-at_,by omega⟩
 have e4:List.set (old.take at_++List.replicate (old.length+1-at_) d) at_ v=old.take at_++v::List.replicate n d:=by
  rw[hn,List.replicate_succ,List.set_append,if_neg (by omega),hl,Nat.sub_self,List.set_cons_zero]
 rw[e3,e4]
 unfold bC
 have e5:(old.take at_++v::List.replicate n d).take (at_+1)=old.take at_++ [v]:=by
  rw[List.take_append,hl,show at_+1-at_=1 by omega,List.take_of_length_le (by omega)];rfl
 have e6:(old.take at_++v::List.replicate n d).drop (at_+1+(old.drop at_).length)=[]:=by
  apply List.drop_eq_nil_of_le
  rw[List.length_append,hl,List.length_cons,List.length_replicate,List.length_drop]
  omega
 rw[e5,e6,List.append_nil,List.append_assoc]
 rfl
theorem zy5(q t:ByteArray)(no:Int)(old:List aQ)(at_:Nat)(h:at_<=old.length)(hl:old.length<=1000000):
 (bif(decide ((zW zI (((List.length old):Int)+(1:Int)))=(zW zI (((List.length old):Int)+(1:Int))))) then(bif(decide ((0:Int)<=(zW zI (((List.length old):Int)+(1:Int))))) then(bif(decide ((zW zI (((List.length old):Int)+(1:Int)))*24<=140737488355328)) then(bif(decide ((0:Int)<=((at_:Nat):Int))) then(bif(decide (((at_:Nat):Int)<=(((List.length old):Nat):Int))) then(bif(Nat.beq ((zW zI (((List.length old):Int)+(1:Int)))).toNat (List.length (List.replicate ((zW zI (((List.length old):Int)+(1:Int)))).toNat ((0:Int),(bs []),())))) then(zd ((at_:Nat):Int) ((zW zI (((List.length old):Int)+(1:Int)))).toNat (bif(Nat.ble ((((at_:Nat):Int)).toNat+1) (List.length (bC (List.replicate ((zW zI (((List.length old):Int)+(1:Int)))).toNat ((0:Int),(bs []),())) (List.take ((zW zI (((List.length old):Int)+(1:Int)))).toNat (List.drop 0 (List.take (((at_:Nat):Int)).toNat old))) 0))) then(bif(decide ((0:Int)<=(zW zI (((at_:Nat):Int)+(1:Int))))) then(bif(decide ((zW zI (((at_:Nat):Int)+(1:Int)))<=((((zW zI (((List.length old):Int)+(1:Int)))).toNat:Nat):Int))) then(bif(decide ((0:Int)<=((at_:Nat):Int))) then(bif(decide (((at_:Nat):Int)<=(((List.length old):Nat):Int))) then(bif(Nat.beq ((zW zI (((List.length old):Int)+(1:Int)))).toNat (List.length (List.set (bC (List.replicate ((zW zI (((List.length old):Int)+(1:Int)))).toNat ((0:Int),(bs []),())) (List.take ((zW zI (((List.length old):Int)+(1:Int)))).toNat (List.drop 0 (List.take (((at_:Nat):Int)).toNat old))) 0) (((at_:Nat):Int)).toNat (no,t,())))) then(bif(Nat.ble ((zW zI (((at_:Nat):Int)+(1:Int)))).toNat ((zW zI (((List.length old):Int)+(1:Int)))).toNat) then(bif(Nat.beq ((zW zI (((List.length old):Int)+(1:Int)))).toNat (List.length (bC (List.set (bC (List.replicate ((zW zI (((List.length old):Int)+(1:Int)))).toNat ((0:Int),(bs []),())) (List.take ((zW zI (((List.length old):Int)+(1:Int)))).toNat (List.drop 0 (List.take (((at_:Nat):Int)).toNat old))) 0) (((at_:Nat):Int)).toNat (no,t,())) (List.take (((zW zI (((List.length old):Int)+(1:Int)))).toNat-((zW zI (((at_:Nat):Int)+(1:Int)))).toNat) (List.drop (((at_:Nat):Int)).toNat (List.take (List.length old) old))) ((zW zI (((at_:Nat):Int)+(1:Int)))).toNat))) then(some (q,(bC (List.set (bC (List.replicate ((zW zI (((List.length old):Int)+(1:Int)))).toNat ((0:Int),(bs []),())) (List.take ((zW zI (((List.length old):Int)+(1:Int)))).toNat (List.drop 0 (List.take (((at_:Nat):Int)).toNat old))) 0) (((at_:Nat):Int)).toNat (no,t,())) (List.take (((zW zI (((List.length old):Int)+(1:Int)))).toNat-((zW zI (((at_:Nat):Int)+(1:Int)))).toNat) (List.drop (((at_:Nat):Int)).toNat (List.take (List.length old) old))) ((zW zI (((at_:Nat):Int)+(1:Int)))).toNat),())) else none) else none) else none) else none) else none) else none) else none) else none)) else none) else none) else none) else none) else none) else none)=some (q,old.take at_++(no,t,())::old.drop at_,()):=by
 have w1:zW zI ((old.length:Int)+1)=((old.length+1:Nat):Int):=zw (by omega)
 have w2:zW zI ((at_:Int)+1)=((at_+1:Nat):Int):=zw (by omega)
 simp only[w1,w2,Int.toNat_natCast]
 have key:=V2 old at_ (no,t,()) ((0:Int),bs [],()) h
 have l1:(bC (List.replicate (old.length+1) ((0:Int),(bs []),())) (List.take (old.length+1) (List.drop 0 (List.take at_ old))) 0).length=old.length+1:=by
  unfold bC;simp;omega
 have l2:(old.take at_++(no,t,())::old.drop at_).length=old.length+1:=by
  rw[List.length_append,List.length_take,List.length_cons,List.length_drop];omega
 have d2:decide ((0:Int)<=((old.length+1:Nat):Int))=true:=zT (by omega)
 have d3:decide (((old.length+1:Nat):Int)*24<=140737488355328)=true:=zT (by omega)
 have d4:decide ((0:Int)<=(at_:Int))=true:=zT (by omega)
 have d5:decide ((at_:Int)<=(old.length:Int))=true:=zT (by omega)
 have d9:decide ((0:Int)<=((at_+1:Nat):Int))=true:=zT (by omega)
 have d10:decide (((at_+1:Nat):Int)<=((old.length+1:Nat):Int))=true:=zT (by omega)
 have b1:Nat.ble (at_+1) (old.length+1)=true:=Nat.ble_eq_true_of_le (by omega)
 have hw:∀{R:Type} (x:Option R),zd (at_:Int) (old.length+1) x=x:=fun x=>zi (by omega)
 simp only[decide_true,zC,d2,d3,d4,d5,List.length_replicate,Nat.beq_refl,hw,l1,b1,d9,d10,List.length_set,key,l2]
def kC(l:List aQ)(no:Int)(t:ByteArray):List aQ:=
 bif decide (bL no l 0<0) then l++ [(no,t,())] else l.take (bL no l 0).toNat++(no,t,())::l.drop (bL no l 0).toNat
def dn(m:bd)(no:Int)(t:ByteArray):bd:=(m.1,kC (dN m.2.1 no) no t,())
theorem KT(m:bd)(no:Int)(t:ByteArray)(h:m.2.1.length<=1000000):fX m no t=some (dn m no t):=by
 unfold fX LK dn
 have hl:=zwo m.2.1 no
 rw[Sy m no h,zc]
 dsimp only
 generalize dN m.2.1 no=old at*
 rw[S6 old no (by omega),zc]
 dsimp only
 unfold kC
 rcases Ib no old 0 (Int.le_refl _) with⟨h1,_⟩|h1
 ·rw[h1,zT (by omega:(-1:Int)<0),zC,zC]
  refine(zy5 m.1 t no old old.length (Nat.le_refl _) (by omega)).trans ?_
  rw[List.take_length,List.drop_length]
 ·rw[zF (by omega:¬bL no old 0<0),zD,zD]
  obtain⟨n,hn⟩:∃n:Nat,bL no old 0=n:=⟨(bL no old 0).toNat,by omega⟩
  rw[hn]
  refine(zy5 m.1 t no old n (by omega) (by omega)).trans ?_
  rw[Int.toNat_natCast]
def og(s:zf):List aQ->Int->Option bu
 | [],_=>none
 |x::r,last=>bif decide (x.1<=last) then some (11,x.1,()) else bif !bq s x.1 then some (9,x.1,()) else bif !decide (aY (aO s x.1) x.2.1=0) then some (aY (aO s x.1) x.2.1,x.1,()) else og s r x.1
def Nn(o:Option bu):Option (Sum bu bu):=some (match o with
 |some f=> .inl f
 |none=> .inr fB)
theorem zbx(s:zf)(hs:s.2.2.1.length<=maxLen):∀(l:List aQ) (i last:Int),(∀v∈l,v.2.1.size<=1099511627776)->
 bj (fun i (x:aQ) (t9:Int) K=>(bif(decide (x.1<=t9)) then some (Sum.inl ((11:Int),x.1,())) else((eD s x.1).bind fun r3=>(bif(!r3.2) then some (Sum.inl ((9:Int),x.1,())) else((bz r3.1 x.2.1).bind fun r4=>(bif(!(decide (r4=(0:Int)))) then some (Sum.inl (r4,x.1,())) else K x.1)))))) (fun _=>some (Sum.inr fB)) l i last=Nn (og s l last)
 | [],i,last,_=>rfl
 |x::r,i,last,h=>by
  rw[bj,og,uR s _ hs,zc]
  cases decide (x.1<=last) with
  |true=>rfl
  |false=>
   rw[zD,zD]
   dsimp only
   cases bq s x.1 with
   |false=>rfl
   |true=>
    rw[Bool.not_true,zD,zD,sr _ _ (h x List.mem_cons_self),zc]
    cases decide (aY (aO s x.1) x.2.1=0) with
    |false=>rfl
    |true=>
     rw[Bool.not_true,zD,zD]
     exact zbx s hs r (i+1) x.1 (fun v hv=>h v (List.mem_cons_of_mem _ hv))
def eI(s:zf)(m:bd):bu:=
 bif !decide ((gB s).1=0) then(1,-1,()) else bif !zt m.1 then(7,0,()) else bif !decide (c8 m.1=s.2.1) then(7,0,()) else match og s m.2.1 0 with
  |some f=>f
  |none=>fB
theorem zl0(s:zf)(m:bd)(hs:s.2.2.1.length<=maxLen)(h:dc m):ou s m=some (eI s m):=by
 unfold ou LF eI
 rw[z85 s hs,zc,KA m.1 (by rw[zj];exact h.n4),zc]
 cases decide ((gB s).1=0) with
 |false=>rfl
 |true=>
  rw[Bool.not_true,zD,zD]
  dsimp only
  cases zt m.1 with
  |false=>rfl
  |true=>
   rw[Bool.not_true,zD,zD]
   cases decide (c8 m.1=s.2.1) with
   |false=>rfl
   |true=>
    rw[Bool.not_true,zD,zD]
    have hl:=h.len
    have:=cf kI m.2.1 (by rw[zj];omega) (fun i (x:aQ) (t9:Int) K=>(bif(decide (x.1<=t9)) then some (Sum.inl ((11:Int),x.1,())) else((eD s x.1).bind fun r3=>(bif(!r3.2) then some (Sum.inl ((9:Int),x.1,())) else((bz r3.1 x.2.1).bind fun r4=>(bif(!(decide (r4=(0:Int)))) then some (Sum.inl (r4,x.1,())) else K x.1)))))) (fun _=>some (Sum.inr fB))
     (fun k i t9=>IG k t9 m.2.1 (m.2.1.length:Int) i s fB) (fun k i t9=>rfl) 0
    rw[this,zbx s hs _ _ _ h.me]
    unfold Nn
    cases og s m.2.1 0<;>rfl
theorem zyd(s:zf)(m:bd)(hs:s.2.2.1.length<=maxLen)(h:dc m)(last:Int):sG ag last 0 s m fB=Nn (og s m.2.1 last):=by
 have hl:=h.len
 rw[<-zbx s hs m.2.1 0 last h.me]
 refine n3 kI m.2.1 (by rw[zj];omega) (fun i (x:aQ) (t9:Int) K=>(bif(decide (x.1<=t9)) then some (Sum.inl ((11:Int),x.1,())) else((eD s x.1).bind fun r3=>(bif(!r3.2) then some (Sum.inl ((9:Int),x.1,())) else((bz r3.1 x.2.1).bind fun r4=>(bif(!(decide (r4=(0:Int)))) then some (Sum.inl (r4,x.1,())) else K x.1)))))) (fun _=>some (Sum.inr fB))
  (fun k i t9=>sG k t9 i s m fB) (fun k i t9 h0 h1=> ?_) (fun k t9=> ?_) last
 ·show sG (k+1) t9 i s m fB=_
  conv=>lhs;unfold sG Iy
  rw[zT h1,zC,zm h0 h1]
  have hx:(List.getD m.2.1 i.toNat ((0:Int),bs [],()))∈m.2.1:=by
   rw[List.getD_eq_getElem?_getD,List.getElem?_eq_getElem (by omega)]
   exact List.getElem_mem _
  show _=(bif(decide ((List.getD m.2.1 i.toNat ((0:Int),bs [],())).1<=t9)) then _ else _)
  generalize hxx:(List.getD m.2.1 i.toNat ((0:Int),bs [],()))=x at*
  cases decide (x.1<=t9) with
  |true=>rfl
  |false=>
   rw[zD,zD,zvu s _ hs,zc,uR s _ hs,zc]
   rcases zx7 s x.1 with⟨i1,i2,i3⟩|⟨i1,i2,i3,i4⟩
   ·rw[i1,i2,zT (by omega:(-1:Int)<0)];rfl
   ·rw[zF (by omega:¬fR s.2.2.1 x.1 0<0),zD,i3,Bool.not_true,zD,zm i1 i2,zm h0 h1,i4,Bi _ _ (h.me x hx),zc,sr _ _ (h.me x hx),zc]
 ·show sG (k+1) t9 m.2.1.length s m fB=_
  conv=>lhs;unfold sG Iy
  rw[zF (by omega),zD]
theorem S1(s:zf)(m:bd)(hs:s.2.2.1.length<=maxLen)(h:dc m):pS s m=some (eI s m):=by
 unfold pS Lf eI
 rw[zq0 s hs,zc,zq1 m.1 (by rw[zj];exact h.n4),zc]
 cases decide ((gB s).1=0) with
 |false=>rfl
 |true=>
  rw[Bool.not_true,zD,zD]
  cases hr:zt m.1 with
  |false=>rfl
  |true=>
   obtain⟨r1,_⟩:=oc.1 hr
   have hd:=sK hr 0 (by omega)
   rw[Bool.not_true,zD,zD,zm (by omega) (by omega)]
   have hv:c8 m.1=ze m.1 0-48:=by unfold c8;rw[hr];rfl
   have e1:zW zI (ze m.1 0)=ze m.1 0:=zg (by omega) (by omega)
   rw[show((0:Int)).toNat=0 from rfl,e1,zg (by omega) (by omega),<-hv]
   cases decide (c8 m.1=s.2.1) with
   |false=>rfl
   |true=>
    rw[Bool.not_true,zD,zD]
    dsimp only
    rw[zyd s m hs h 0]
    unfold Nn
    cases og s m.2.1 0<;>rfl
theorem abj{a b:bd}:a=b↔a.1=b.1/\a.2.1=b.2.1:=⟨fun h=>by rw[h];exact⟨rfl,rfl⟩,fun h=>Prod.ext h.1 (Prod.ext h.2 rfl)⟩
abbrev Map:=List bG×List aS×Unit
structure ea(m:Map):Prop where
 ux:dV m.1
 len:m.2.1.length<=1000000
 rules:∀r∈m.2.1,gE r
def fb(a b:zf):List ByteArray->List bG->Int->Option (Int×Int)
 |_,[],_=>none
 |seen,p::r,i=>if xP p a b=true then(if p.1∈seen then some (10,i) else fb a b (seen++ [p.1]) r (i+1)) else some (7,i)
abbrev Xr:=Sum (Int×Int×Int×Map×zf×zf) (Map×zf×zf)
def rA(m:Map)(a b:zf)(o:Option (Int×Int)):Option Xr:=some (match o with
 |some e=> .inl (e.1,2,e.2,m,a,b)
 |none=> .inr (m,a,b))
theorem F5(m:Map)(a b:zf):∀(l:List bG) (i:Int) (seen:List ByteArray),(∀p∈l,p.1.size<=1099511627776/\p.2.1.size<=1099511627776)->
 bj (fun i (x:bG) (s:List iO) K=>((mC x a b).bind fun r2=>(bif(!r2) then some (Sum.inl ((7:Int),(2:Int),i,m,a,b)) else(bif dR (eU .str) false s x.1 then some (Sum.inl ((10:Int),(2:Int),i,m,a,b)) else(bif dS (eU .str) s x.1 then none else K (s++ [(x.1,true)])))))) (fun _=>some (Sum.inr (m,a,b))) l i (cW seen)=rA m a b (fb a b seen l i)
 | [],i,seen,_=>rfl
 |p::r,i,seen,h=>by
  obtain⟨h1,h2⟩:=h p List.mem_cons_self
  simp only[bj,fb]
  rw[Zm p a b (by rw[zj];omega) (by rw[zj];omega),Option.bind_some]
  cases xP p a b with
  |false=>rw[if_neg (by simp)];rfl
  |true=>
   rw[if_pos rfl]
   simp only[Bool.not_true,zD]
   have e1:=KM (eU .str) (fun _ _=>rfl) p.1 seen
   have e2:=KN (eU .str) (fun _ _=>rfl) p.1 seen
   by_cases hm:p.1∈seen
   ·rw[e1.2 hm,if_pos hm];rfl
   ·rw[Br e1 hm,Br e2 hm,if_neg hm,zD,zD,z8v]
    exact F5 m a b r (i+1) (seen++ [p.1]) fun q hq=>h q (List.mem_cons_of_mem _ hq)
theorem VN(m:Map)(a b:zf)(h:dV m.1):BK ag m.1 (m.1.length:Int) 0 m a b []=rA m a b (fb a b [] m.1 0):=by
 have hl:=h.len
 have:=cf jk m.1 (by rw[zj];omega) (fun i (x:bG) (s:List iO) K=>((mC x a b).bind fun r2=>(bif(!r2) then some (Sum.inl ((7:Int),(2:Int),i,m,a,b)) else(bif dR (eU .str) false s x.1 then some (Sum.inl ((10:Int),(2:Int),i,m,a,b)) else(bif dS (eU .str) s x.1 then none else K (s++ [(x.1,true)])))))) (fun _=>some (Sum.inr (m,a,b)))
  (fun k i s=>BK k m.1 (m.1.length:Int) i m a b s) (fun k i s=>rfl) []
 rw[this]
 exact F5 m a b m.1 0 [] h.sz
def kY(x y:aS):Bool:=(!decide (x.2.1=0)&&decide (x.2.1=y.2.1))||(!decide (x.2.2.1=0)&&decide (x.2.2.1=y.2.2.1))
def pO(a b:zf):List aS->List aS->Int->Option (Int×Int)
 |_,[],_=>none
 |prev,r::l,i=>if dz r a b=0 then(if prev.any (fun q=>kY q r)=true then some (10,i) else pO a b (prev++ [r]) l (i+1)) else some (dz r a b,i)
def H2(o:Option (Int×Int)):Option (Sum lr Unit):=some (match o with
 |some e=> .inl (e.1,3,e.2)
 |none=> .inr ())
def dw(m:Map)(a b:zf):Int×Int×Int:=
 if(gB a).1=0 then(if(gB b).1=0 then(if 256<m.1.length then(5,2,256) else match fb a b [] m.1 0 with
  |some e=>(e.1,2,e.2)
  |none=>if 256<m.2.1.length then(5,3,256) else match pO a b [] m.2.1 0 with
   |some e=>(e.1,3,e.2)
   |none=>(0,0,0)) else(1,1,1)) else(1,1,0)
theorem zxr(l:List Int)(f:Int):cg (l++ [f])=cg l|||cg [f]:=by simp [cg,List.foldl_append]
theorem zxs(l:List Int)(f:Int):cn (l++ [f])=cn l|||cn [f]:=by simp [cn,List.foldl_append]
theorem zwb(fs:List Int)(f:Int):(cg fs&&&cg [f]=0/\cn fs&&&cn [f]=0)↔¬(f∈fs/\gX f=true):=by
 constructor
 ·rintro⟨h1,h2⟩ ⟨h3,h4⟩
  have:=G3 (cg fs) (cn fs) (cg [f]) (cn [f]) f
  rw[h1,h2,zx2,BW,BW,h4] at this
  simp [h3] at this
 ·intro h
  refine abu (HI (pK fs)) (HI (pM fs)) (by decide) (by decide) fun n _ _=> ?_
  rw[zx2,G3,BW,BW]
  by_cases e:n=f
  ·subst e
   cases hr:gX n with
   |false=>simp
   |true=>
    have:n∉fs:=fun hm=>h ⟨hm,hr⟩
    simp [this]
  ·simp [e]
theorem Gu(x y:Nat):(decide (((x:Nat):Int)=0)&&(decide (((y:Nat):Int)=0)&&true))=decide (x=0/\y=0):=by
 rw[Bool.and_true,<-Bool.decide_and]
 exact decide_eq_decide.2 (by omega)
theorem zqp{s:zf}(h:fW s){no:Int}(hh:bq s no=true):gX no=true:=by
 unfold bq eV at hh
 obtain⟨x,hx⟩:=Option.isSome_iff_exists.1 hh
 have h1:=List.find?_some hx
 have h2:=List.mem_of_find?_eq_some hx
 have h3:=K2 (h.2.2.2.1 x h2)
 have h4:x.1=no:=of_decide_eq_true h1
 unfold gX
 exact zT (by omega)
theorem TE{r:aS}{a b:zf}(h:dz r a b=0):eh r a b=false:=by
 unfold dz at h
 cases hc:(decide (r.1<1)||decide ((5:Int)<r.1)) with
 |true=>rw[hc] at h;simp at h
 |false=>
  rw[hc] at h
  cases he:eh r a b with
  |false=>rfl
  |true=>rw[he] at h;simp at h
theorem Ze{r:aS}{a b:zf}(ha:fW a)(hb:fW b)(h:dz r a b=0):(r.2.1≠0->gX r.2.1=true)/\(r.2.2.1≠0->gX r.2.2.1=true):=by
 have he:=TE h
 unfold eh at he
 rw[Bool.or_eq_false_iff] at he
 refine⟨fun hz=> ?_,fun hz=> ?_⟩
 ·by_cases k:r.1=3
  ·rw[zT k,zF hz] at he;simp at he
  ·rw[zF k] at he
   exact zqp ha (by simpa using he.1)
 ·by_cases k:r.1=2
  ·rw[zT k,zF hz] at he;simp at he
  ·rw[zF k] at he
   exact zqp hb (by simpa using he.2)
def ej(l:List aS):List Int:=l.map fun q=>q.2.1
def pf(l:List aS):List Int:=l.map fun q=>q.2.2.1
theorem FZ:gX 0=false:=by decide
theorem Wm(prev:List aS)(r:aS)(h1:r.2.1≠0->gX r.2.1=true)(h2:r.2.2.1≠0->gX r.2.2.1=true):
 prev.any (fun q=>kY q r)=(!decide (¬(r.2.1∈ej prev/\gX r.2.1=true))|| !decide (¬(r.2.2.1∈pf prev/\gX r.2.2.1=true))):=by
 have e:prev.any (fun q=>kY q r)=true↔((r.2.1∈ej prev/\gX r.2.1=true)\/(r.2.2.1∈pf prev/\gX r.2.2.1=true)):=by
  rw[List.any_eq_true]
  unfold kY ej pf
  simp only[List.mem_map]
  constructor
  ·rintro⟨q,hq,h⟩
   simp only[Bool.or_eq_true,Bool.and_eq_true,Bool.not_eq_true',decide_eq_false_iff_not,decide_eq_true_eq] at h
   rcases h with⟨g1,g2⟩|⟨g1,g2⟩
   ·exact .inl ⟨⟨q,hq,g2⟩,h1 (by rw[<-g2];exact g1)⟩
   ·exact .inr ⟨⟨q,hq,g2⟩,h2 (by rw[<-g2];exact g1)⟩
  ·rintro(⟨⟨q,hq,g⟩,hr⟩|⟨⟨q,hq,g⟩,hr⟩)
   ·refine⟨q,hq,?_⟩
    have:q.2.1≠0:=fun e=>by rw[<-g,e,FZ] at hr;cases hr
    rw[zF this,zT g];rfl
   ·refine⟨q,hq,?_⟩
    have:q.2.2.1≠0:=fun e=>by rw[<-g,e,FZ] at hr;cases hr
    rw[zF this,zT g];simp
 cases hb:prev.any (fun q=>kY q r) with
 |true=>
  rcases e.1 hb with h|h
  ·rw[zF (fun hn=>hn h)];rfl
  ·rw[show decide (¬(r.2.2.1∈pf prev/\gX r.2.2.1=true))=false from zF (fun hn=>hn h)];simp
 |false=>
  have hn:=fun h=>(by rw[hb] at e;exact absurd (e.2 h) (by simp):False)
  rw[zT (show¬(r.2.1∈ej prev/\gX r.2.1=true) from fun h=>hn (.inl h)),zT (show¬(r.2.2.1∈pf prev/\gX r.2.2.1=true) from fun h=>hn (.inr h))];rfl
abbrev S2:=Int×Int×Unit
def wD(l:List Int):S2:=((cg l:Int),(cn l:Int),())
theorem zxq(a b:zf)(ha:a.2.2.1.length<=maxLen)(hb:b.2.2.1.length<=maxLen)(oa:fW a)(ob:fW b):∀(l:List aS) (i:Int) (prev:List aS),(∀r∈l,gE r)->
 bj (fun i (x:aS) (s:S2×S2) K=>((my x a b).bind fun r3=>(bif(!decide (r3=0)) then some (Sum.inl (r3,(3:Int),i)) else((sc ([x.2.1]:List Int)).bind fun r4=>((sc ([x.2.2.1]:List Int)).bind fun r5=>((pB s.1 r4).bind fun r6=>(bif(!(decide (r6.1=0)&&(decide (r6.2.1=0)&&true))) then some (Sum.inl ((10:Int),(3:Int),i)) else((pB s.2 r5).bind fun r7=>(bif(!(decide (r7.1=0)&&(decide (r7.2.1=0)&&true))) then some (Sum.inl ((10:Int),(3:Int),i)) else((qu s.1 r4).bind fun r8=>((qu s.2 r5).bind fun r9=>K (r8,r9)))))))))))) (fun _=>some (Sum.inr ())) l i (wD (ej prev),wD (pf prev))=H2 (pO a b prev l i)
 | [],i,prev,_=>rfl
 |r::l,i,prev,h=>by
  simp only[bj,pO]
  rw[Sr r a b (h r List.mem_cons_self) ha hb,Option.bind_some]
  by_cases z:dz r a b=0
  ·rw[zT z,if_pos z]
   simp only[Bool.not_true,zD]
   obtain⟨i1,i2⟩:=Ze oa ob z
   have mJ:=Wm prev r i1 i2
   rw[vr _ (by simp [zj]),Option.bind_some,vr _ (by simp [zj]),Option.bind_some]
   unfold wD
   rw[Gv _ _ _ _ (pK _) (pM _) (pK _) (pM _),Option.bind_some]
   dsimp only
   rw[Gu,decide_eq_decide.2 (zwb (ej prev) r.2.1)]
   by_cases c1:¬(r.2.1∈ej prev/\gX r.2.1=true)
   ·rw[zT c1] at mJ⊢
    simp only[Bool.not_true,zD]
    rw[Gv _ _ _ _ (pK _) (pM _) (pK _) (pM _),Option.bind_some]
    dsimp only
    rw[Gu,decide_eq_decide.2 (zwb (pf prev) r.2.2.1)]
    by_cases c2:¬(r.2.2.1∈pf prev/\gX r.2.2.1=true)
    ·rw[zT c2] at mJ⊢
     rw[mJ]
     simp only[Bool.not_true,zD,Bool.or_false]
     rw[if_neg (by simp),zce _ _ _ _ (pK _) (pM _) (pK _) (pM _),Option.bind_some,zce _ _ _ _ (pK _) (pM _) (pK _) (pM _),Option.bind_some]
     have:=zxq a b ha hb oa ob l (i+1) (prev++ [r]) (fun q hq=>h q (List.mem_cons_of_mem _ hq))
     rw[show ej (prev++ [r])=ej prev++ [r.2.1] by simp [ej],show pf (prev++ [r])=pf prev++ [r.2.2.1] by simp [pf]] at this
     unfold wD at this
     rw[zxr,zxs,zxr,zxs] at this
     exact this
    ·rw[zF c2] at mJ⊢
     rw[mJ];rfl
   ·rw[zF c1] at mJ⊢
    rw[mJ];rfl
  ·rw[zF z,if_neg z];rfl
theorem Ss(m:Map)(a b:zf)(ha:a.2.2.1.length<=maxLen)(hb:b.2.2.1.length<=maxLen):BJ ag ([a,b]:List zf) ((List.length ([a,b]:List zf)):Int) 0 m a b=some (if(gB a).1=0 then(if(gB b).1=0 then .inr (m,a,b) else .inl (1,1,1,m,a,b)) else .inl (1,1,0,m,a,b)):=by
 obtain⟨k,hk⟩:=wE
 rw[hk]
 simp only[BJ,M1]
 have w0:∀{R:Type} (x:Option R),zd 0 ([a,b]:List zf).length x=x:=fun x=>zm (by omega) (by simp)
 have w1:∀{R:Type} (x:Option R),zd 1 ([a,b]:List zf).length x=x:=fun x=>zm (by omega) (by simp)
 have e1:zW zI (0+1)=1:=rfl
 have e2:zW zI (1+1)=2:=rfl
 have d0:decide ((0:Int)<(([a,b]:List zf).length:Int))=true:=rfl
 have d1:decide ((1:Int)<(([a,b]:List zf).length:Int))=true:=rfl
 have d2:decide ((2:Int)<(([a,b]:List zf).length:Int))=false:=rfl
 rw[d0,zC,w0,show List.getD ([a,b]:List zf) (0:Int).toNat ((0:Int),(0:Int),([]:List Spec),())=a from rfl,z85 a ha,Option.bind_some]
 by_cases za:(gB a).1=0
 ·rw[zT za,if_pos za]
  simp only[Bool.not_true,zD]
  rw[e1,d1,zC,w1,show List.getD ([a,b]:List zf) (1:Int).toNat ((0:Int),(0:Int),([]:List Spec),())=b from rfl,z85 b hb,Option.bind_some]
  by_cases zb:(gB b).1=0
  ·rw[zT zb,if_pos zb]
   simp only[Bool.not_true,zD]
   rw[e2,d2,zD]
  ·rw[zF zb,if_neg zb];rfl
 ·rw[zF za,if_neg za];rfl
abbrev gx:aS:=(0,0,0,bs [],[],())
theorem z71(m:Map)(a b:zf)(h:ea m)(ha:a.2.2.1.length<=maxLen)(hb:b.2.2.1.length<=maxLen):oG m a b=some (dw m a b):=by
 have h1:=h.ux.len
 have h2:=h.len
 unfold oG M0 dw
 dsimp only
 rw[Ss m a b ha hb,Option.bind_some]
 by_cases za:(gB a).1=0
 ·rw[if_pos za,if_pos za]
  by_cases zb:(gB b).1=0
  ·rw[if_pos zb,if_pos zb]
   simp only[Sum.elim_inr]
   unfold M3
   by_cases hm:256<m.1.length
   ·rw[zT (by omega),if_pos hm];rfl
   ·rw[zF (by omega),if_neg hm,zD]
    dsimp only
    rw[VN m a b h.ux]
    unfold rA
    cases fb a b [] m.1 0 with
    |some e=>rfl
    |none=>
     simp only[Option.bind_some,Sum.elim_inr]
     unfold M4
     by_cases hr:256<m.2.1.length
     ·rw[zT (by omega),if_pos hr];rfl
     ·rw[zF (by omega),if_neg hr,zD]
      dsimp only
      have:=cf gx m.2.1 (by rw[zj];omega) (fun i (x:aS) (s:S2×S2) K=>((my x a b).bind fun r3=>(bif(!decide (r3=0)) then some (Sum.inl (r3,(3:Int),i)) else((sc ([x.2.1]:List Int)).bind fun r4=>((sc ([x.2.2.1]:List Int)).bind fun r5=>((pB s.1 r4).bind fun r6=>(bif(!(decide (r6.1=0)&&(decide (r6.2.1=0)&&true))) then some (Sum.inl ((10:Int),(3:Int),i)) else((pB s.2 r5).bind fun r7=>(bif(!(decide (r7.1=0)&&(decide (r7.2.1=0)&&true))) then some (Sum.inl ((10:Int),(3:Int),i)) else((qu s.1 r4).bind fun r8=>((qu s.2 r5).bind fun r9=>K (r8,r9)))))))))))) (fun _=>some (Sum.inr ()))
       (fun k i s=>I4 k m.2.1 (m.2.1.length:Int) i a b s.1 s.2) (fun k i s=>rfl) (wD (ej []),wD (pf []))
      have h3:=zxq a b ha hb ((uM a).1 za) ((uM b).1 zb) m.2.1 0 [] h.rules
      rw[h3] at this
      have h4:wD (ej [])=((0:Int),(0:Int),()):=rfl
      have h5:wD (pf [])=((0:Int),(0:Int),()):=rfl
      rw[h4,h5] at this
      rw[this]
      unfold H2
      cases pO a b [] m.2.1 0<;>rfl
  ·rw[if_neg zb,if_neg zb];rfl
 ·rw[if_neg za,if_neg za];rfl
instance Kp:DecidableEq aS:=fun x y=>decidable_of_iff ((decide (x.1=y.1)&&(decide (x.2.1=y.2.1)&&(decide (x.2.2.1=y.2.2.1)&&(decide (x.2.2.2.1=y.2.2.2.1)&&decide (x.2.2.2.2.1=y.2.2.2.2.1)))))=true) (by obtain⟨a1,a2,a3,a4,a5,u⟩:=x;obtain⟨b1,b2,b3,b4,b5,v⟩:=y;simp)
instance QJ:DecidableEq Map:=fun x y=>decidable_of_iff ((decide (x.1=y.1)&&decide (x.2.1=y.2.1))=true) (by obtain⟨a1,a2,u⟩:=x;obtain⟨b1,b2,v⟩:=y;simp)
def rN(r:aS):aS:=(r.1,r.2.2.1,r.2.1,r.2.2.2.1,kf r.2.2.2.2.1,())
def Fo(m:Map):Map:=(kf m.1,m.2.1.map rN,())
abbrev QI:Map:=([],[],())
structure ac7(r:aS)(a b:zf):Prop where
 lo:¬r.1<1
 hi:¬(5:Int)<r.1
 ends:eh r a b=false
 text:lS r=false
 kind:j7 r (aO a r.2.1) (aO b r.2.2.1)=0
theorem KH{a b:zf}:∀{l:List bG} {seen:List ByteArray} {i:Int},fb a b seen l i=none↔(∀p∈l,xP p a b=true)/\kr seen l i=none
 | [],seen,i=>by simp [fb,kr]
 |p::r,seen,i=>by
  simp only[fb,kr,List.mem_cons,forall_eq_or_imp]
  cases ht:xP p a b with
  |false=>simp
  |true=>
   rw[if_pos rfl]
   by_cases hm:p.1∈seen
   ·simp [hm]
   ·rw[if_neg hm,if_neg hm,KH]
    simp
def Bz:List aS->List aS->Prop
 |_,[]=>True
 |prev,r::l=>prev.any (fun q=>kY q r)=false/\Bz (prev++ [r]) l
theorem Kz{a b:zf}:∀{l:List aS} {prev:List aS} {i:Int},pO a b prev l i=none↔(∀r∈l,dz r a b=0)/\Bz prev l
 | [],prev,i=>by simp [pO,Bz]
 |r::l,prev,i=>by
  simp only[pO,Bz,List.mem_cons,forall_eq_or_imp]
  by_cases z:dz r a b=0
  ·rw[if_pos z]
   cases hp:prev.any (fun q=>kY q r) with
   |true=>simp
   |false=>
    rw[if_neg (by simp),Kz]
    simp [z]
  ·rw[if_neg z];simp [z]
theorem zr2{a b:zf}:∀{l:List bG} {seen:List ByteArray} {i:Int} {e:Int×Int},fb a b seen l i=some e->e.1≠0
 |p::r,seen,i,e,h=>by
  simp only[fb] at h
  split at h
  ·split at h
   ·cases h;simp
   ·exact zr2 h
  ·cases h;simp
theorem zl5{a b:zf}:∀{l:List aS} {prev:List aS} {i:Int} {e:Int×Int},pO a b prev l i=some e->e.1≠0
 |r::l,prev,i,e,h=>by
  simp only[pO] at h
  split at h
  ·split at h
   ·cases h;simp
   ·exact zl5 h
  ·rename_i hz
   cases h;exact hz
structure dD(m:Map)(a b:zf):Prop where
 sa:(gB a).1=0
 sb:(gB b).1=0
 E4:m.1.length<=256
 typed:∀p∈m.1,xP p a b=true
 dup:kr [] m.1 0=none
 E5:m.2.1.length<=256
 rules:∀r∈m.2.1,dz r a b=0
 rO:Bz [] m.2.1
theorem zms{m:Map}{a b:zf}:(dw m a b).1=0↔dD m a b:=by
 constructor
 ·intro h
  unfold dw at h
  split at h
  ·split at h
   ·rename_i h1 h2
    split at h
    ·cases h
    ·rename_i h3
     split at h
     ·rename_i e he
      exact absurd h (zr2 he)
     ·rename_i hm
      split at h
      ·cases h
      ·rename_i h4
       split at h
       ·rename_i e he
        exact absurd h (zl5 he)
       ·rename_i hr
        obtain⟨g1,g2⟩:=KH.1 hm
        obtain⟨g3,g4⟩:=Kz.1 hr
        exact⟨h1,h2,by omega,g1,g2,by omega,g3,g4⟩
   ·cases h
  ·cases h
 ·intro h
  unfold dw
  have e1:=KH.2 ⟨h.typed,h.dup⟩
  have e2:pO a b [] m.2.1 0=none:=Kz.2 ⟨h.rules,h.rO⟩
  have l1:=h.E4
  have l2:=h.E5
  rw[if_pos h.sa,if_pos h.sb,if_neg (by omega),e1]
  simp only
  rw[if_neg (by omega),e2]
theorem dD.eq{m:Map}{a b:zf}(h:dD m a b):dw m a b=(0,0,0):=by
 unfold dw
 have e1:=KH.2 ⟨h.typed,h.dup⟩
 have e2:pO a b [] m.2.1 0=none:=Kz.2 ⟨h.rules,h.rO⟩
 have l1:=h.E4
 have l2:=h.E5
 rw[if_pos h.sa,if_pos h.sb,if_neg (by omega),e1]
 simp only
 rw[if_neg (by omega),e2]
theorem dV.turn{l:List bG}(h:dV l):dV (kf l):=⟨by rw[Wk];exact h.len,fun p hp=>by
 unfold kf at hp
 obtain⟨q,hq,rfl⟩:=List.mem_map.1 hp
 exact⟨(h.sz q hq).2,(h.sz q hq).1⟩⟩
theorem ea.turn{m:Map}(h:ea m):ea (Fo m):=⟨h.ux.turn,by show(m.2.1.map rN).length<=_;rw[List.length_map];exact h.len,fun r hr=>by
 obtain⟨q,hq,rfl⟩:=List.mem_map.1 (show r∈m.2.1.map rN from hr)
 exact⟨(h.rules q hq).text,(h.rules q hq).hJ.turn⟩⟩
theorem YO(l:List aQ)(no:Int)(t:ByteArray):(kC l no t).length=l.length+1:=by
 unfold kC
 rcases Ib no l 0 (Int.le_refl _) with⟨h1,_⟩|h1
 ·rw[h1,zT (by omega:(-1:Int)<0),zC,List.length_append];rfl
 ·rw[zF (by omega:¬bL no l 0<0),zD,List.length_append,List.length_take,List.length_cons,List.length_drop]
  omega
theorem KR(m:bd)(no:Int)(t:ByteArray):(dn m no t).2.1.length<=m.2.1.length+1:=by
 show(kC (dN m.2.1 no) no t).length<=_
 rw[YO]
 have:=zwo m.2.1 no
 omega
theorem Zx(m:Map)(t:ByteArray)(h:m.1.length<=maxLen):qt m t=some (zx m.1 t):=by
 unfold qt Nc
 dsimp only
 have:=cf jk m.1 h (fun i (x:bG) (s:Unit) K=>bif decide (x.1=t) then some (Sum.inl (x.2.1,true)) else K s) (fun _=>some (Sum.inr ()))
  (fun k i s=>I8 k t m.1 (m.1.length:Int) i) (fun k i s=>rfl) ()
 rw[this,zb4]
 unfold zx
 cases m.1.find? fun p=>decide (p.1=t)<;>rfl
def dO(m:Map)(no:Int):Option aS:=m.2.1.find? fun r=>decide (r.2.1=no)
def wC(o:Option aS):Option (Sum (Bool×aS) aS):=some (match o with
 |some r=> .inl (true,r)
 |none=> .inr gx)
theorem z117(no:Int):∀(l:List aS) (i:Int),bj (fun i (x:aS) (s:Unit) K=>(bif(decide (x.2.1=no)) then some (Sum.inl (true,x)) else K s)) (fun _=>some (Sum.inr gx)) l i ()=wC (l.find? fun r=>decide (r.2.1=no))
 | [],i=>rfl
 |x::r,i=>by
  rw[bj,List.find?_cons]
  cases hx:decide (x.2.1=no) with
  |true=>rfl
  |false=>rw[zD];exact z117 no r (i+1)
theorem Wz(m:Map)(no:Int)(h:m.2.1.length<=maxLen):mB m no=some (match dO m no with
 |some r=>(r,true)
 |none=>(gx,false)):=by
 unfold mB Na dO
 dsimp only
 have:=cf gx m.2.1 h (fun i (x:aS) (s:Unit) K=>(bif(decide (x.2.1=no)) then some (Sum.inl (true,x)) else K s)) (fun _=>some (Sum.inr gx))
  (fun k i s=>I7 k no m.2.1 (m.2.1.length:Int) i gx) (fun k i s=>rfl) ()
 rw[this,z117]
 unfold wC
 cases m.2.1.find? fun r=>decide (r.2.1=no)<;>rfl
def pk:List aS->bd->bd
 | [],out=>out
 |r::l,out=>pk l (bif decide (r.1=3) then dn out r.2.2.1 r.2.2.2.1 else out)
theorem z9f:∀(l:List aS) (out:bd),(pk l out).2.1.length<=out.2.1.length+l.length
 | [],out=>Nat.le_refl _
 |r::l,out=>by
  rw[pk,List.length_cons]
  cases decide (r.1=3) with
  |true=>rw[zC];have:=z9f l (dn out r.2.2.1 r.2.2.2.1);have:=KR out r.2.2.1 r.2.2.2.1;omega
  |false=>rw[zD];have:=z9f l out;omega
theorem zbu{ρ:Type}(fin:bd->Option ρ):∀(l:List aS) (i:Int) (out:bd),out.2.1.length+l.length<=1000000->
 bj (fun i (x:aS) (s:bd) K=>(bif(decide (x.1=(3:Int))) then((fX s x.2.2.1 x.2.2.2.1).bind fun r4=>K r4) else K s)) fin l i out=fin (pk l out)
 | [],i,out,_=>rfl
 |r::l,i,out,h=>by
  simp only[List.length_cons] at h
  rw[bj,pk]
  cases decide (r.1=3) with
  |true=>
   rw[zC,zC,KT out _ _ (by omega),zc]
   have:=KR out r.2.2.1 r.2.2.2.1
   exact zbu fin l (i+1) _ (by omega)
  |false=>
   rw[zD,zD]
   exact zbu fin l (i+1) out (by omega)
def xF(m:Map)(b:zf):List aQ->bd->Sum (bu×bd) bd
 | [],out=> .inr out
 |v::r,out=>match dO m v.1 with
  |none=> .inl ((9,v.1,()),out)
  |some q=>bif !decide ((fj q b v.2.1).2=0) then .inl (((fj q b v.2.1).2,v.1,()),out) else xF m b r (bif !decide ((fj q b v.2.1).1.1=0) then dn out (fj q b v.2.1).1.1 (fj q b v.2.1).1.2.1 else out)
abbrev cz:bd:=(bs [],[],())
def FM(o:Sum (bu×bd) bd):Option (Sum (bd×bu×bd) (bd×bu×bd)):=some (match o with
 | .inl (f,out)=> .inl (cz,f,out)
 | .inr out=> .inr (cz,fB,out))
theorem Bp{m:Map}{no:Int}{r:aS}(h:dO m no=some r):r∈m.2.1/\r.2.1=no:=⟨List.mem_of_find?_eq_some h,by simpa using List.find?_some h⟩
theorem z9k(m:Map)(b:zf)(hm:ea m)(hb:b.2.2.1.length<=maxLen):∀(l:List aQ) (i:Int) (out:bd),out.2.1.length+l.length<=1000000->(∀v∈l,v.2.1.size<=1099511627776)->
 bj (fun i (x:aQ) (s:bd) K=>((mB m x.1).bind fun r5=>(bif(!r5.2) then some (Sum.inl (cz,((9:Int),x.1,()),s)) else((mw r5.1 b x.2.1).bind fun r6=>(bif(!(decide (r6.2=(0:Int)))) then some (Sum.inl (cz,(r6.2,x.1,()),s)) else(bif(!(decide (r6.1.1=(0:Int)))) then((fX s r6.1.1 r6.1.2.1).bind fun r7=>K r7) else K s)))))) (fun s=>some (Sum.inr (cz,fB,s))) l i out=FM (xF m b l out)
 | [],i,out,_,_=>rfl
 |v::r,i,out,h,ht=>by
  simp only[List.length_cons] at h
  have hl:=hm.len
  have hv:=ht v List.mem_cons_self
  rw[bj,Wz m v.1 (by rw[zj];omega),zc,xF]
  cases hf:dO m v.1 with
  |none=>rfl
  |some q=>
   dsimp only
   obtain⟨q1,_⟩:=Bp hf
   have qp:=(hm.rules q q1).hJ.len
   rw[Bool.not_true,zD,Sq q b v.2.1 (by rw[zj];omega) hb (by rw[zj];omega),zc]
   generalize fj q b v.2.1=y
   cases decide (y.2=0) with
   |false=>rfl
   |true=>
    rw[Bool.not_true,zD,zD]
    cases decide (y.1.1=0) with
    |true=>
     rw[Bool.not_true,zD,zD]
     exact z9k m b hm hb r (i+1) out (by omega) (fun w hw=>ht w (List.mem_cons_of_mem _ hw))
    |false=>
     rw[Bool.not_false,zC,zC,KT out _ _ (by omega),zc]
     have:=KR out y.1.1 y.1.2.1
     exact z9k m b hm hb r (i+1) _ (by omega) (fun w hw=>ht w (List.mem_cons_of_mem _ hw))
def pw(m:Map)(a b:zf)(x:bd):bd×bu:=
 bif !decide ((dw m a b).1=0) then(cz,(1,-1,())) else bif !decide ((eI a x).1=0) then(cz,eI a x) else bif !(zx m.1 x.1).2 then(cz,(7,0,()))
 else match xF m b x.2.1 (pk m.2.1 ((zx m.1 x.1).1,[],())) with
  | .inl (f,_)=>(cz,f)
  | .inr out=>(out,fB)
theorem Se(m:Map)(a b:zf)(x:bd)(hm:ea m)(yJ:m.2.1.length<=900000)(hx:dc x)(rf:x.2.1.length<=90000)(ha:a.2.2.1.length<=maxLen)(hb:b.2.2.1.length<=maxLen):oH m a b x=some (pw m a b x):=by
 have hl:=hm.ux.len
 unfold oH M7 pw
 rw[z71 m a b hm ha hb,zc]
 cases decide ((dw m a b).1=0) with
 |false=>rfl
 |true=>
  rw[Bool.not_true,zD,zD,zl0 a x ha hx,zc]
  cases decide ((eI a x).1=0) with
  |false=>rfl
  |true=>
   rw[Bool.not_true,zD,zD,Zx m x.1 (by rw[zj];omega),zc]
   cases(zx m.1 x.1).2 with
   |false=>rfl
   |true=>
    rw[Bool.not_true,zD,zD]
    dsimp only
    have h1:=cf gx m.2.1 (by rw[zj];omega) (fun i (x:aS) (s:bd) K=>(bif(decide (x.1=(3:Int))) then((fX s x.2.2.1 x.2.2.2.1).bind fun r4=>K r4) else K s)) (fun s=>some (m,b,x,cz,fB,s))
     (fun k i s=>I5 k m.2.1 (m.2.1.length:Int) i m b x cz fB s) (fun k i s=>rfl) ((zx m.1 x.1).1,[],())
    rw[h1,zbu _ _ _ _ (by simp;omega),zc]
    unfold M8
    dsimp only
    have hc:=z9f m.2.1 ((zx m.1 x.1).1,[],())
    have hc:(pk m.2.1 ((zx m.1 x.1).1,[],())).2.1.length<=m.2.1.length:=by simpa using hc
    have h2:=cf kI x.2.1 (by rw[zj];omega) (fun i (x:aQ) (s:bd) K=>((mB m x.1).bind fun r5=>(bif(!r5.2) then some (Sum.inl (cz,((9:Int),x.1,()),s)) else((mw r5.1 b x.2.1).bind fun r6=>(bif(!(decide (r6.2=(0:Int)))) then some (Sum.inl (cz,(r6.2,x.1,()),s)) else(bif(!(decide (r6.1.1=(0:Int)))) then((fX s r6.1.1 r6.1.2.1).bind fun r7=>K r7) else K s)))))) (fun s=>some (Sum.inr (cz,fB,s)))
     (fun k i s=>I6 k x.2.1 (x.2.1.length:Int) i m b cz fB s) (fun k i s=>rfl) (pk m.2.1 ((zx m.1 x.1).1,[],()))
    rw[h2,z9k m b hm hb _ _ _ (by omega) hx.me]
    unfold FM
    cases xF m b x.2.1 (pk m.2.1 ((zx m.1 x.1).1,[],())) with
    |inl p=>obtain⟨f,o⟩:=p;rfl
    |inr o=>rfl
abbrev iM(l:List aQ):Prop:=l.Pairwise fun x y=>x.1<y.1
def kB(no:Int)(t:ByteArray):List aQ->List aQ
 | []=>[(no,t,())]
 |x::r=>if no<x.1 then(no,t,())::x::r else x::kB no t r
theorem zky(no:Int):∀(l:List aQ) (i d:Int),0<=i->0<=d->bL no l (i+d)=if bL no l i<0 then-1 else bL no l i+d
 | [],i,d,_,_=>by unfold bL;rw[if_pos (by omega)]
 |x::r,i,d,hi,hd=>by
  unfold bL
  by_cases hx:no<x.1
  ·rw[if_pos hx,if_pos hx,if_neg (by omega)]
  ·rw[if_neg hx,if_neg hx,show i+d+1=(i+1)+d by omega]
   exact zky no r (i+1) d (by omega) hd
theorem zvh(no:Int)(t:ByteArray):∀l:List aQ,kC l no t=kB no t l
 | []=>rfl
 |x::r=>by
  have ih:=zvh no t r
  unfold kC at ih⊢
  unfold kB
  by_cases hx:no<x.1
  ·have:bL no (x::r) 0=0:=by unfold bL;rw[if_pos hx]
   rw[this,if_pos hx];rfl
  ·rw[if_neg hx,<-ih]
   have h0:bL no (x::r) 0=bL no r (0+1):=by
    show(if no<x.1 then(0:Int) else bL no r (0+1))=_
    rw[if_neg hx]
   rw[h0,zky no r 0 1 (by omega) (by omega)]
   rcases Ib no r 0 (Int.le_refl _) with⟨h1,_⟩|h1
   ·rw[h1,if_pos (by omega)];rfl
   ·rw[if_neg (by omega),zF (by omega:¬bL no r 0+1<0),zF (by omega:¬bL no r 0<0),zD,zD]
    have:(bL no r 0+1).toNat=(bL no r 0).toNat+1:=by omega
    rw[this];rfl
theorem zmq(no:Int)(t:ByteArray)(v:aQ):∀l:List aQ,v∈kB no t l↔v=(no,t,())\/v∈l
 | []=>by simp [kB]
 |x::r=>by
  unfold kB
  split
  ·simp
  ·rw[List.mem_cons,zmq no t v r,List.mem_cons]
   constructor
   ·rintro(h|h|h)
    ·exact .inr (.inl h)
    ·exact .inl h
    ·exact .inr (.inr h)
   ·rintro(h|h|h)
    ·exact .inr (.inl h)
    ·exact .inl h
    ·exact .inr (.inr h)
theorem F0(no:Int)(t:ByteArray):∀{l:List aQ},iM l->(∀x∈l,x.1≠no)->iM (kB no t l)
 | [],_,_=>by simp [kB,iM]
 |x::r,h,hn=>by
  have hx:=hn x List.mem_cons_self
  rw[iM,List.pairwise_cons] at h
  unfold kB
  split
  ·rename_i ar
   refine List.pairwise_cons.2 ⟨fun y hy=> ?_,List.pairwise_cons.2 h⟩
   rcases List.mem_cons.1 hy with rfl|hy
   ·exact ar
   ·have:=h.1 y hy
    show no<y.1
    omega
  ·rename_i ar
   refine List.pairwise_cons.2 ⟨fun y hy=> ?_,F0 no t h.2 (fun z hz=>hn z (List.mem_cons_of_mem _ hz))⟩
   rcases(zmq no t y r).1 hy with rfl|hy
   ·show x.1<no
    omega
   ·exact h.1 y hy
theorem zwp{l:List aQ}{no:Int}{v:aQ}:v∈dN l no↔v∈l/\v.1≠no:=by
 unfold dN
 rw[List.mem_filter]
 simp
theorem KS(m:bd)(no:Int)(t:ByteArray)(v:aQ):v∈(dn m no t).2.1↔v=(no,t,())\/(v∈m.2.1/\v.1≠no):=by
 show v∈kC (dN m.2.1 no) no t↔_
 rw[zvh,zmq,zwp]
theorem zgg{m:bd}(h:iM m.2.1)(no:Int)(t:ByteArray):iM (dn m no t).2.1:=by
 show iM (kC (dN m.2.1 no) no t)
 rw[zvh]
 exact F0 no t (h.filter _) (fun x hx=>(zwp.1 hx).2)
theorem z157:∀{l r:List aQ},iM l->iM r->(∀v,v∈l↔v∈r)->l=r
 | [],[],_,_,_=>rfl
 | [],y::r,_,_,h=>by have:=(h y).2 List.mem_cons_self;cases this
 |x::l,[],_,_,h=>by have:=(h x).1 List.mem_cons_self;cases this
 |x::l,y::r,hl,hr,h=>by
  have uh:=List.pairwise_cons.1 hl
  have Qn:=List.pairwise_cons.1 hr
  have e:x=y:=by
   rcases List.mem_cons.1 ((h x).1 List.mem_cons_self) with e|e
   ·exact e
   ·rcases List.mem_cons.1 ((h y).2 List.mem_cons_self) with e2|e2
    ·exact e2.symm
    ·have a1:=Qn.1 x e
     have a2:=uh.1 y e2
     omega
  subst e
  congr 1
  refine z157 uh.2 Qn.2 fun v=>⟨fun hv=> ?_,fun hv=> ?_⟩
  ·rcases List.mem_cons.1 ((h v).1 (List.mem_cons_of_mem _ hv)) with e|e
   ·subst e;have:=uh.1 _ hv;omega
   ·exact e
  ·rcases List.mem_cons.1 ((h v).2 (List.mem_cons_of_mem _ hv)) with e|e
   ·subst e;have:=Qn.1 _ hv;omega
   ·exact e
def pN:List aQ->bd->bd
 | [],out=>out
 |v::l,out=>pN l (dn out v.1 v.2.1)
def iE(l:List aQ):Prop:=l.Pairwise fun x y=>x.1≠y.1
theorem zl2:∀(l:List aQ) (out:bd),(pN l out).1=out.1
 | [],out=>rfl
 |v::l,out=>zl2 l _
theorem zr4:∀(l:List aQ) {out:bd},iM out.2.1->iM (pN l out).2.1
 | [],out,h=>h
 |v::l,out,h=>zr4 l (zgg h v.1 v.2.1)
theorem zr3:∀(l:List aQ) (out:bd),iE l->(∀v∈l,∀w∈out.2.1,v.1≠w.1)->∀v,v∈(pN l out).2.1↔v∈out.2.1\/v∈l
 | [],out,_,_,v=>by simp [pN]
 |x::l,out,ha,hd,v=>by
  have Ek:=List.pairwise_cons.1 ha
  have hx:(x.1,x.2.1,())=x:=rfl
  rw[pN,zr3 l _ Ek.2 (fun y hy w hw=> ?_) v,KS,hx,List.mem_cons]
  ·constructor
   ·rintro((h|h)|h)
    ·exact .inr (.inl h)
    ·exact .inl h.1
    ·exact .inr (.inr h)
   ·rintro(h|h|h)
    ·exact .inl (.inr ⟨h,fun e=>hd x List.mem_cons_self v h e.symm⟩)
    ·exact .inl (.inl h)
    ·exact .inr h
  ·rcases(KS out x.1 x.2.1 w).1 hw with e|e
   ·rw[e];exact fun h=>Ek.1 y hy h.symm
   ·exact hd y (List.mem_cons_of_mem _ hy) w e.1
theorem zcc:∀(l r:List aQ) (out:bd),pN (l++r) out=pN r (pN l out)
 | [],r,out=>rfl
 |v::l,r,out=>zcc l r _
def iD(l:List aS):List aQ:=(l.filter fun r=>decide (r.1=3)).map fun r=>(r.2.2.1,r.2.2.2.1,())
theorem z9g:∀(l:List aS) (out:bd),pk l out=pN (iD l) out
 | [],out=>rfl
 |r::l,out=>by
  rw[pk]
  unfold iD
  rw[List.filter_cons]
  cases decide (r.1=3) with
  |true=>exact z9g l _
  |false=>exact z9g l _
def jq(m:Map)(b:zf):List aQ->Sum bu (List aQ)
 | []=> .inr []
 |v::r=>match dO m v.1 with
  |none=> .inl (9,v.1,())
  |some q=>bif !decide ((fj q b v.2.1).2=0) then .inl ((fj q b v.2.1).2,v.1,()) else match jq m b r with
   | .inl f=> .inl f
   | .inr ys=> .inr ((fj q b v.2.1).1::ys)
def bU(l:List aQ):List aQ:=l.filter fun v=> !decide (v.1=0)
theorem z9j(m:Map)(b:zf):∀(l:List aQ) (out:bd),(∃f o,xF m b l out= .inl (f,o)/\jq m b l= .inl f)\/(∃ys,xF m b l out= .inr (pN (bU ys) out)/\jq m b l= .inr ys)
 | [],out=> .inr ⟨[],rfl,rfl⟩
 |v::r,out=>by
  rw[xF,jq]
  cases dO m v.1 with
  |none=>exact .inl ⟨_,_,rfl,rfl⟩
  |some q=>
   dsimp only
   generalize fj q b v.2.1=y
   cases decide (y.2=0) with
   |false=>exact .inl ⟨_,_,rfl,rfl⟩
   |true=>
    rw[Bool.not_true,zD,zD]
    cases hz:decide (y.1.1=0) with
    |true=>
     rw[Bool.not_true,zD]
     rcases z9j m b r out with⟨f,o,h1,h2⟩|⟨ys,h1,h2⟩
     ·exact .inl ⟨f,o,h1,by rw[h2]⟩
     ·refine .inr ⟨y.1::ys,?_,by rw[h2]⟩
      rw[h1]
      have:bU (y.1::ys)=bU ys:=by unfold bU;rw[List.filter_cons,hz];rfl
      rw[this]
    |false=>
     rw[Bool.not_false,zC]
     rcases z9j m b r (dn out y.1.1 y.1.2.1) with⟨f,o,h1,h2⟩|⟨ys,h1,h2⟩
     ·exact .inl ⟨f,o,h1,by rw[h2]⟩
     ·refine .inr ⟨y.1::ys,?_,by rw[h2]⟩
      rw[h1]
      have:bU (y.1::ys)=y.1::bU ys:=by unfold bU;rw[List.filter_cons,hz];rfl
      rw[this]
      rfl
theorem H9{m:Map}{b:zf}:∀{l ys:List aQ},jq m b l= .inr ys->∀y∈ys,∃v∈l,∃q,dO m v.1=some q/\(fj q b v.2.1).2=0/\y=(fj q b v.2.1).1
 | [],ys,h,y,hy=>by cases h;cases hy
 |v::r,ys,h,y,hy=>by
  rw[jq] at h
  cases hf:dO m v.1 with
  |none=>rw[hf] at h;cases h
  |some q=>
   rw[hf] at h
   dsimp only at h
   cases hz:decide ((fj q b v.2.1).2=0) with
   |false=>rw[hz] at h;cases h
   |true=>
    rw[hz,Bool.not_true,zD] at h
    cases hr:jq m b r with
    |inl f=>rw[hr] at h;cases h
    |inr zs=>
     rw[hr] at h
     cases h
     rcases List.mem_cons.1 hy with rfl|hy
     ·exact⟨v,List.mem_cons_self,q,hf,of_decide_eq_true hz,rfl⟩
     ·obtain⟨w,hw,q',g⟩:=H9 hr y hy
      exact⟨w,List.mem_cons_of_mem _ hw,q',g⟩
theorem TM(x y:aS):kY x y=kY y x:=by
 unfold kY
 have e1:(!decide (x.2.1=0)&&decide (x.2.1=y.2.1))=(!decide (y.2.1=0)&&decide (y.2.1=x.2.1)):=by
  by_cases h:x.2.1=y.2.1
  ·rw[h]
  ·rw[zF h,zF (show¬y.2.1=x.2.1 from fun e=>h e.symm),Bool.and_false,Bool.and_false]
 have e2:(!decide (x.2.2.1=0)&&decide (x.2.2.1=y.2.2.1))=(!decide (y.2.2.1=0)&&decide (y.2.2.1=x.2.2.1)):=by
  by_cases h:x.2.2.1=y.2.2.1
  ·rw[h]
  ·rw[zF h,zF (show¬y.2.2.1=x.2.2.1 from fun e=>h e.symm),Bool.and_false,Bool.and_false]
 rw[e1,e2]
theorem zg0:∀{l prev:List aS},Bz prev l->l.Pairwise (fun x y=>kY x y=false)/\∀p∈prev,∀x∈l,kY p x=false
 | [],prev,h=>⟨List.Pairwise.nil,fun _ _ x hx=>by cases hx⟩
 |r::l,prev,h=>by
  obtain⟨h1,h2⟩:=h
  obtain⟨i1,i2⟩:=zg0 h2
  have hp:∀p∈prev,kY p r=false:=fun p hp=>by
   have:=List.any_eq_false.1 h1 p hp
   simpa using this
  refine⟨List.pairwise_cons.2 ⟨fun y hy=>i2 r (by simp) y hy,i1⟩,fun p hp' x hx=> ?_⟩
  rcases List.mem_cons.1 hx with rfl|hx
  ·exact hp p hp'
  ·exact i2 p (by simp [hp']) x hx
theorem zgf{x y:aS}(h:kY x y=false)(hx:x.2.2.1≠0):x.2.2.1≠y.2.2.1:=by
 intro e
 unfold kY at h
 rw[Bool.or_eq_false_iff] at h
 have:=h.2
 rw[zF hx,zT e] at this
 cases this
theorem Ga{l:List aS}(h:l.Pairwise fun x y=>kY x y=false):∀x∈l,∀y∈l,x≠y->kY x y=false:=by
 induction l with
 |nil=>intro x hx;cases hx
 |cons r l ih=>
  obtain⟨h1,h2⟩:=List.pairwise_cons.1 h
  intro x hx y hy bZ
  rcases List.mem_cons.1 hx with e1|hx1
  ·rcases List.mem_cons.1 hy with e2|Qy
   ·exact absurd (e1.trans e2.symm) bZ
   ·rw[e1];exact h1 y Qy
  ·rcases List.mem_cons.1 hy with e2|Qy
   ·rw[TM,e2];exact h1 x hx1
   ·exact ih h2 x hx1 y Qy bZ
theorem xt{s:zf}:∀{l:List aQ} {last:Int},og s l last=none↔(∀v∈l,bq s v.1=true/\aY (aO s v.1) v.2.1=0)/\iM l/\∀v∈l,last<v.1
 | [],last=>by simp [og,iM]
 |x::r,last=>by
  rw[og]
  by_cases h1:x.1<=last
  ·rw[zT h1,zC]
   refine⟨fun h=>(by cases h),fun h=> ?_⟩
   have:=h.2.2 x List.mem_cons_self
   omega
  rw[zF h1,zD]
  cases h2:bq s x.1 with
  |false=>
   refine⟨fun h=>(by cases h),fun h=> ?_⟩
   have:=(h.1 x List.mem_cons_self).1
   rw[h2] at this;cases this
  |true=>
   rw[Bool.not_true,zD]
   by_cases h3:aY (aO s x.1) x.2.1=0
   ·rw[zT h3,Bool.not_true,zD,xt]
    constructor
    ·rintro⟨g1,g2,g3⟩
     refine⟨fun v hv=> ?_,List.pairwise_cons.2 ⟨g3,g2⟩,fun v hv=> ?_⟩
     ·rcases List.mem_cons.1 hv with rfl|hv
      ·exact⟨h2,h3⟩
      ·exact g1 v hv
     ·rcases List.mem_cons.1 hv with rfl|hv
      ·omega
      ·have:=g3 v hv;omega
    ·rintro⟨g1,g2,g3⟩
     have g2:=List.pairwise_cons.1 g2
     exact⟨fun v hv=>g1 v (List.mem_cons_of_mem _ hv),g2.2,g2.1⟩
   ·rw[zF h3,Bool.not_false,zC]
    refine⟨fun h=>(by cases h),fun h=> ?_⟩
    exact absurd (h.1 x List.mem_cons_self).2 h3
theorem zfn{s:zf}:∀{l:List aQ} {last:Int} {f:bu},og s l last=some f->f.1≠0
 | [],last,f,h=>by cases h
 |x::r,last,f,h=>by
  rw[og] at h
  cases h1:decide (x.1<=last) with
  |true=>rw[h1] at h;cases h;exact(by decide:(11:Int)≠0)
  |false=>
   rw[h1,zD] at h
   cases h2:bq s x.1 with
   |false=>rw[h2] at h;cases h;exact(by decide:(9:Int)≠0)
   |true=>
    rw[h2,Bool.not_true,zD] at h
    by_cases h3:aY (aO s x.1) x.2.1=0
    ·rw[zT h3,Bool.not_true,zD] at h
     exact zfn h
    ·rw[zF h3,Bool.not_false,zC] at h
     cases h
     exact h3
structure fu(s:zf)(m:bd):Prop where
 hN:(gB s).1=0
 right:zt m.1=true
 Kr:c8 m.1=s.2.1
 gJ:og s m.2.1 0=none
theorem Iu{s:zf}{m:bd}:(eI s m).1=0↔fu s m:=by
 unfold eI
 by_cases h1:(gB s).1=0
 ·rw[zT h1,Bool.not_true,zD]
  cases h2:zt m.1 with
  |false=>exact⟨fun h=>absurd h (show¬(7:Int)=0 by decide),fun h=>by have:=h.right;rw[h2] at this;cases this⟩
  |true=>
   rw[Bool.not_true,zD]
   by_cases h3:c8 m.1=s.2.1
   ·rw[zT h3,Bool.not_true,zD]
    cases h4:og s m.2.1 0 with
    |none=>exact⟨fun _=>⟨h1,h2,h3,h4⟩,fun _=>rfl⟩
    |some f=>exact⟨fun h=>absurd h (zfn h4),fun h=>by have:=h.gJ;rw[h4] at this;cases this⟩
   ·rw[zF h3]
    exact⟨fun h=>absurd h (show¬(7:Int)=0 by decide),fun h=>absurd h.Kr h3⟩
 ·rw[zF h1]
  exact⟨fun h=>absurd h (show¬(1:Int)=0 by decide),fun h=>absurd h.hN h1⟩
theorem fu.eq{s:zf}{m:bd}(h:fu s m):eI s m=fB:=by
 unfold eI
 rw[zT h.hN,h.right,zT h.Kr,h.gJ];rfl
theorem Ab{s:zf}(h:fW s){no:Int}(hh:bq s no=true):2<=no/\no<=128:=by
 have:=(zl6 (KP h hh)).1
 rw[(KY hh).2] at this
 exact this
theorem Ij{q:aS}{b:zf}{t:ByteArray}(h:(fj q b t).2=0)(hz:(fj q b t).1.1≠0):q.1≠2/\(fj q b t).1.1=q.2.2.1:=by
 unfold fj at h hz⊢
 by_cases k1:q.1=1
 ·rw[zT k1,zC];exact⟨by omega,rfl⟩
 rw[zF k1,zD] at h hz⊢
 by_cases k2:q.1=2
 ·rw[zT k2,zC] at hz;exact absurd rfl hz
 rw[zF k2,zD] at h hz⊢
 refine⟨k2,?_⟩
 by_cases k3:q.1=3
 ·rw[zT k3,zC]
 rw[zF k3,zD] at h hz⊢
 by_cases k4:q.1=4
 ·rw[zT k4,zC] at h hz⊢
  cases hs:bq b q.2.2.1 with
  |false=>rw[hs] at h;cases h
  |true=>
   rw[hs] at h
   rw[Bool.not_true,zD] at h⊢
   cases hp:(eJ t (aO b q.2.2.1).2.2.2.1).2 with
   |false=>rw[hp] at h;cases h
   |true=>rfl
 rw[zF k4,zD] at h hz⊢
 by_cases k5:q.1=5
 ·rw[zT k5,zC] at h hz⊢
  cases hp:(zx q.2.2.2.2.1 t).2 with
  |false=>rw[hp] at h;cases h
  |true=>rfl
 ·rw[zF k5,zD] at hz;exact absurd rfl hz
theorem Bs{l:List aQ}{v:aQ}:v∈bU l↔v∈l/\v.1≠0:=by
 unfold bU
 rw[List.mem_filter]
 simp
section
variable {m:Map} {a b:zf}
theorem dD.hJ(h:dD m a b):m.2.1.Pairwise fun x y=>kY x y=false:=(zg0 h.rO).1
theorem dD.okA(h:dD m a b):fW a:=(uM a).1 h.sa
theorem dD.okB(h:dD m a b):fW b:=(uM b).1 h.sb
theorem dD.to(h:dD m a b){r:aS}(hr:r∈m.2.1)(k:r.1≠2):bq b r.2.2.1=true:=(zfk (KJ (h.rules r hr)).2.1).2.2.2 k
theorem dD.Kq(h:dD m a b){r:aS}(hr:r∈m.2.1)(k:r.1≠2):r.2.2.1≠0:=by
 have:=Ab h.okB (h.to hr k)
 omega
theorem Gs(h:dD m a b):∀{l ys:List aQ},iM l->jq m b l= .inr ys->iE (bU ys)
 | [],ys,_,hy=>by cases hy;exact List.Pairwise.nil
 |v::r,ys,hr,hy=>by
  rw[jq] at hy
  have hr:=List.pairwise_cons.1 hr
  cases hf:dO m v.1 with
  |none=>rw[hf] at hy;cases hy
  |some q=>
   rw[hf] at hy
   dsimp only at hy
   cases hz:decide ((fj q b v.2.1).2=0) with
   |false=>rw[hz] at hy;cases hy
   |true=>
    rw[hz,Bool.not_true,zD] at hy
    cases hv:jq m b r with
    |inl f=>rw[hv] at hy;cases hy
    |inr zs=>
     rw[hv] at hy
     cases hy
     have ih:=Gs h hr.2 hv
     unfold bU at ih⊢
     rw[List.filter_cons]
     split
     ·rename_i Qg
      have Qg:(fj q b v.2.1).1.1≠0:=by simpa using Qg
      refine List.pairwise_cons.2 ⟨fun z hzm=> ?_,ih⟩
      obtain⟨z1,z2⟩:=Bs.1 hzm
      obtain⟨w,hw,q',hf',h0',rfl⟩:=H9 hv z z1
      obtain⟨a1,a2⟩:=Ij (of_decide_eq_true hz) Qg
      obtain⟨b1,b2⟩:=Ij h0' z2
      rw[a2,b2]
      obtain⟨qm,qf⟩:=Bp hf
      obtain⟨qm',qf'⟩:=Bp hf'
      have ar:=hr.1 w hw
      have bZ:q≠q':=fun e=>by subst e;omega
      exact zgf (Ga h.hJ q qm q' qm' bZ) (h.Kq qm a1)
     ·exact ih
theorem KE{l:List aS}{v:aQ}:v∈iD l↔∃r∈l,r.1=3/\v=(r.2.2.1,r.2.2.2.1,()):=by
 unfold iD
 rw[List.mem_map]
 constructor
 ·rintro⟨r,hr,rfl⟩
  rw[List.mem_filter] at hr
  exact⟨r,hr.1,of_decide_eq_true hr.2,rfl⟩
 ·rintro⟨r,hr,k,rfl⟩
  exact⟨r,List.mem_filter.2 ⟨hr,zT k⟩,rfl⟩
theorem Sh(h:dD m a b):iE (iD m.2.1):=by
 unfold iD
 refine List.pairwise_map.2 ?_
 refine List.Pairwise.imp_of_mem ?_ (h.hJ.filter _)
 intro x y hx hy wY
 have hx:=List.mem_filter.1 hx
 have k:x.1=3:=of_decide_eq_true hx.2
 exact zgf wY (h.Kq hx.1 (by omega))
theorem SH(h:dD m a b){l ys:List aQ}(hl:∀v∈l,bq a v.1=true)(hy:jq m b l= .inr ys):∀c∈iD m.2.1,∀y∈bU ys,c.1≠y.1:=by
 intro c hc y hym
 obtain⟨r,hr,k,rfl⟩:=KE.1 hc
 obtain⟨y1,y2⟩:=Bs.1 hym
 obtain⟨w,hw,q,hf,h0,rfl⟩:=H9 hy y y1
 obtain⟨b1,b2⟩:=Ij h0 y2
 rw[b2]
 obtain⟨qm,qf⟩:=Bp hf
 have hwr:=Ab h.okA (hl w hw)
 have hz:=(zfk (KJ (h.rules r hr)).2.1).1 k
 have bZ:r≠q:=fun e=>by subst e;omega
 exact zgf (Ga h.hJ r hr q qm bZ) (h.Kq hr (by omega))
theorem zvw(h:dD m a b){l ys:List aQ}(hr:iM l)(hl:∀v∈l,bq a v.1=true)(hy:jq m b l= .inr ys):iE (iD m.2.1++bU ys):=
 List.pairwise_append.2 ⟨Sh h,Gs h hr hy,SH h hl hy⟩
theorem zvx(h:dD m a b){l ys:List aQ}(hy:jq m b l= .inr ys):∀v∈iD m.2.1++bU ys,bq b v.1=true:=by
 intro v hv
 rcases List.mem_append.1 hv with hv|hv
 ·obtain⟨r,hr,k,rfl⟩:=KE.1 hv
  exact h.to hr (by omega)
 ·obtain⟨y1,y2⟩:=Bs.1 hv
  obtain⟨w,hw,q,hf,h0,rfl⟩:=H9 hy v y1
  obtain⟨b1,b2⟩:=Ij h0 y2
  rw[b2]
  exact h.to (Bp hf).1 b1
end
def mf(vs:List aQ):Nat->Nat->List aQ
 |0,_=>[]
 |n+1,k=>(vs.filter fun v=>decide (v.1=(k:Int)))++mf vs n (k+1)
theorem KC{vs:List aQ}{v:aQ}:∀{n k:Nat},v∈mf vs n k↔v∈vs/\(k:Int)<=v.1/\v.1<((k+n:Nat):Int)
 |0,k=>by simp only[mf,List.not_mem_nil,false_iff];omega
 |n+1,k=>by
  rw[mf,List.mem_append,List.mem_filter,decide_eq_true_eq,KC]
  constructor
  ·rintro(⟨h1,h2⟩|⟨h1,h2,h3⟩)
   ·exact⟨h1,by omega,by omega⟩
   ·exact⟨h1,by omega,by omega⟩
  ·rintro⟨h1,h2,h3⟩
   by_cases e:v.1=(k:Int)
   ·exact .inl ⟨h1,e⟩
   ·exact .inr ⟨h1,by omega,by omega⟩
theorem zbr{vs:List aQ}(h:iE (bU vs)):∀(n k:Nat),1<=k->iM (mf vs n k)
 |0,k,_=>List.Pairwise.nil
 |n+1,k,hk=>by
  rw[mf]
  refine List.pairwise_append.2 ⟨?_,zbr h n (k+1) (by omega),fun x hx y hy=> ?_⟩
  ·have e:(vs.filter fun v=>decide (v.1=(k:Int)))=(bU vs).filter fun v=>decide (v.1=(k:Int)):=by
    unfold bU
    rw[List.filter_filter]
    congr 1
    funext v
    by_cases hv:v.1=(k:Int)
    ·rw[zT hv,zF (by omega:¬v.1=0)];rfl
    ·rw[zF hv];rfl
   rw[e]
   refine List.Pairwise.imp_of_mem ?_ (h.filter _)
   intro x y hx hy bZ
   have h1:=of_decide_eq_true (List.mem_filter.1 hx).2
   have h2:=of_decide_eq_true (List.mem_filter.1 hy).2
   omega
  ·have h1:=of_decide_eq_true (List.mem_filter.1 hx).2
   have h2:=(KC.1 hy).2.1
   omega
def Pu(m:Map)(a b:zf)(x:bd):bd×bu:=
 bif !decide ((dw m a b).1=0) then(cz,(1,-1,())) else bif !decide ((eI a x).1=0) then(cz,eI a x) else bif !(zx m.1 x.1).2 then(cz,(7,0,()))
 else match jq m b x.2.1 with
  | .inl f=>(cz,f)
  | .inr ys=>(((zx m.1 x.1).1,mf (ys++iD m.2.1) 127 2,()),fB)
theorem zga(l r:List aQ):bU (l++r)=bU l++bU r:=by unfold bU;rw[List.filter_append]
theorem zgb{m:Map}{a b:zf}(h:dD m a b):bU (iD m.2.1)=iD m.2.1:=by
 unfold bU
 refine List.filter_eq_self.2 fun v hv=> ?_
 obtain⟨r,hr,k,rfl⟩:=KE.1 hv
 have:=h.Kq hr (by omega)
 simpa using this
theorem zq5{l r:List aQ}(h:iE (l++r)):iE (r++l):=by
 obtain⟨h1,h2,h3⟩:=List.pairwise_append.1 h
 exact List.pairwise_append.2 ⟨h2,h1,fun x hx y hy e=>h3 y hy x hx e.symm⟩
theorem Ve{m:Map}{a b:zf}(h:dD m a b){l ys:List aQ}(hr:iM l)(hl:∀v∈l,bq a v.1=true)(hy:jq m b l= .inr ys)(t:ByteArray):
 pN (bU ys) (pk m.2.1 (t,[],()))=(t,mf (ys++iD m.2.1) 127 2,()):=by
 rw[z9g,<-zcc]
 have wH:=zvw h hr hl hy
 have hs:bU (ys++iD m.2.1)=bU ys++iD m.2.1:=by rw[zga,zgb h]
 refine abj.2 ⟨zl2 _ _,?_⟩
 refine z157 (zr4 _ List.Pairwise.nil) (zbr (by rw[hs];exact zq5 wH) 127 2 (by omega)) fun v=> ?_
 rw[zr3 _ _ wH (fun _ _ w hw=>by cases hw) v,KC]
 constructor
 ·rintro(hv|hv)
  ·cases hv
  ·have hb:=Ab h.okB (zvx h hy v hv)
   refine⟨?_,by omega,by omega⟩
   rcases List.mem_append.1 hv with hv|hv
   ·exact List.mem_append_right _ hv
   ·exact List.mem_append_left _ (Bs.1 hv).1
 ·rintro⟨hv,h1,h2⟩
  right
  rcases List.mem_append.1 hv with hv|hv
  ·exact List.mem_append_right _ (Bs.2 ⟨hv,by omega⟩)
  ·exact List.mem_append_left _ hv
theorem zrf(m:Map)(a b:zf)(x:bd):pw m a b x=Pu m a b x:=by
 unfold pw Pu
 by_cases h1:(dw m a b).1=0
 ·rw[zT h1,Bool.not_true,zD,zD]
  by_cases h2:(eI a x).1=0
  ·rw[zT h2,Bool.not_true,zD,zD]
   cases(zx m.1 x.1).2 with
   |false=>rfl
   |true=>
    rw[Bool.not_true,zD,zD]
    obtain⟨g1,g2,g3⟩:=xt.1 (Iu.1 h2).gJ
    rcases z9j m b x.2.1 (pk m.2.1 ((zx m.1 x.1).1,[],())) with⟨f,o,e1,e2⟩|⟨ys,e1,e2⟩
    ·rw[e1,e2]
    ·rw[e1,e2]
     dsimp only
     rw[Ve (zms.1 h1) g2 (fun v hv=>(g1 v hv).1) e2]
  ·rw[zF h2];rfl
 ·rw[zF h1];rfl
end bn

namespace bn
open Go.IntKind renaming wrap->zW,i64->zI,u8->zU
open Go Go.Ref
abbrev Fk:Ty:= .pair (.int .i64) (.pair (.int .i64) (.pair (.int .i64) (.pair (.int .i64) (.pair (.int .i64) .unit))))
abbrev abv:Ty:= .pair (.int .i64) (.pair (.int .i64) (.pair (.sl 0 Fk) .unit))
abbrev xn:Ty:= .pair .str (.pair .str .unit)
abbrev Fj:Ty:= .pair (.int .i64) (.pair (.int .i64) (.pair (.int .i64) (.pair .str (.pair (.sl 0 xn) .unit))))
abbrev Fi:Ty:= .pair (.sl 0 xn) (.pair (.sl 0 Fj) .unit)
def small(n:Nat)(l:List bG):Bool:=l.all fun p=> !decide ((n:Int)<(p.1.size:Int))&& !decide ((n:Int)<(p.2.1.size:Int))
theorem Gh{n:Nat}{l:List bG}(hn:n<=1200)(h:small n l=true):∀p∈l,p.1.size<=1099511627776/\p.2.1.size<=1099511627776:=fun p hp=>by
 have:=List.all_eq_true.1 h p hp
 simp only[Bool.and_eq_true,Bool.not_eq_true',decide_eq_false_iff_not] at this
 omega
def grR(t:Bool):Option (Sum Bool Unit):=some (bif t then .inr () else .inl true)
theorem HO:∀(l:List bG) (i:Int),bj (fun i (p:bG) (s:Unit) K=>bif(decide (1200<((p.1).size:Int))) then some (Sum.inl true) else(bif(decide (1200<((p.2.1).size:Int))) then some (Sum.inl true) else K s)) (fun _=>some (Sum.inr ())) l i ()=grR (small 1200 l)
 | [],i=>rfl
 |p::r,i=>by
  simp only[bj,small,List.all_cons]
  by_cases h1:(1200:Int)<(p.1.size:Int)
  ·rw[zT h1,zT (show((1200:Nat):Int)<(p.1.size:Int) from h1)];rfl
  ·rw[zF h1,zF (show¬((1200:Nat):Int)<(p.1.size:Int) from h1)]
   by_cases h2:(1200:Int)<(p.2.1.size:Int)
   ·rw[zT h2,zT (show((1200:Nat):Int)<(p.2.1.size:Int) from h2)];rfl
   ·rw[zF h2,zF (show¬((1200:Nat):Int)<(p.2.1.size:Int) from h2)]
    exact HO r (i+1)
def vm(r:aS):Bool:=decide ((1200:Int)<(r.2.2.2.1.size:Int))||(decide ((300:Int)<(r.2.2.2.2.1.length:Int))|| !small 1200 r.2.2.2.2.1)
theorem S4(r:aS)(h:r.2.2.2.2.1.length<=maxLen):mm r=some (vm r):=by
 unfold mm Lk vm
 cases decide ((1200:Int)<(r.2.2.2.1.size:Int)) with
 |true=>rfl
 |false=>
  cases decide ((300:Int)<(r.2.2.2.2.1.length:Int)) with
  |true=>rfl
  |false=>
   simp only[zD,Bool.false_or]
   have:=n3 jk r.2.2.2.2.1 h (fun i (p:bG) (s:Unit) K=>bif(decide (1200<((p.1).size:Int))) then some (Sum.inl true) else(bif(decide (1200<((p.2.1).size:Int))) then some (Sum.inl true) else K s)) (fun _=>some (Sum.inr ()))
    (fun k i s=>uY k i r) (fun k i s h0 h1=>by
      show uY (k+1) i r=_
      conv=>lhs;unfold uY IA
      rw[zT h1,zC,zm h0 h1,zm h0 h1]
      rfl) (fun k s=>by
      show uY (k+1) r.2.2.2.2.1.length r=_
      conv=>lhs;unfold uY IA
      rw[zF (by omega),zD]) ()
   rw[this,HO]
   unfold grR
   cases small 1200 r.2.2.2.2.1<;>rfl
theorem VG{r:aS}(h:vm r=false):gE r:=by
 unfold vm at h
 simp only[Bool.or_eq_false_iff,decide_eq_false_iff_not,Bool.not_eq_false'] at h
 obtain⟨h1,h2,h3⟩:=h
 exact⟨by omega,by omega,Gh (by omega) h3⟩
theorem HN(m:Map):∀(l:List bG) (i:Int),bj (fun i (p:bG) (s:Unit) K=>bif(decide (100<((p.1).size:Int))) then some (Sum.inl (true,m)) else(bif(decide (100<((p.2.1).size:Int))) then some (Sum.inl (true,m)) else K s)) (fun _=>some (Sum.inr m)) l i ()=some (bif small 100 l then .inr m else .inl (true,m))
 | [],i=>rfl
 |p::r,i=>by
  simp only[bj,small,List.all_cons]
  by_cases h1:(100:Int)<(p.1.size:Int)
  ·rw[zT h1,zT (show((100:Nat):Int)<(p.1.size:Int) from h1)];rfl
  ·rw[zF h1,zF (show¬((100:Nat):Int)<(p.1.size:Int) from h1)]
   by_cases h2:(100:Int)<(p.2.1.size:Int)
   ·rw[zT h2,zT (show((100:Nat):Int)<(p.2.1.size:Int) from h2)];rfl
   ·rw[zF h2,zF (show¬((100:Nat):Int)<(p.2.1.size:Int) from h2)]
    exact HN m r (i+1)
theorem HM:∀(l:List aS) (i:Int),(∀r∈l,r.2.2.2.2.1.length<=maxLen)->bj (fun i (x:aS) (s:Unit) K=>((mm x).bind fun r1=>(bif r1 then some (Sum.inl true) else K s))) (fun _=>some (Sum.inr ())) l i ()=some (bif l.any vm then Sum.inl true else Sum.inr ())
 | [],i,_=>rfl
 |r::l,i,h=>by
  simp only[bj,List.any_cons]
  rw[S4 r (h r List.mem_cons_self),Option.bind_some]
  cases vm r with
  |true=>rfl
  |false=>exact HM l (i+1) fun q hq=>h q (List.mem_cons_of_mem _ hq)
def xM(m:Map):Bool:=decide ((300:Int)<(m.1.length:Int))||(decide ((300:Int)<(m.2.1.length:Int))||(!small 100 m.1||m.2.1.any vm))
theorem S5(m:Map)(h1:m.1.length<=maxLen)(h2:m.2.1.length<=maxLen)(h3:∀r∈m.2.1,r.2.2.2.2.1.length<=maxLen):kj m=some (xM m):=by
 unfold kj Ln xM
 cases decide ((300:Int)<(m.1.length:Int)) with
 |true=>rfl
 |false=>
  cases decide ((300:Int)<(m.2.1.length:Int)) with
  |true=>rfl
  |false=>
   simp only[zD,Bool.false_or]
   have e1:=n3 jk m.1 h1 (fun i (p:bG) (s:Unit) K=>bif(decide (100<((p.1).size:Int))) then some (Sum.inl (true,m)) else(bif(decide (100<((p.2.1).size:Int))) then some (Sum.inl (true,m)) else K s)) (fun _=>some (Sum.inr m))
    (fun k i s=>uZ k i m) (fun k i s h0 h1=>by
      show uZ (k+1) i m=_
      conv=>lhs;unfold uZ IC
      rw[zT h1,zC,zm h0 h1,zm h0 h1]
      rfl) (fun k s=>by
      show uZ (k+1) m.1.length m=_
      conv=>lhs;unfold uZ IC
      rw[zF (by omega),zD]) ()
   rw[e1,HN]
   cases small 100 m.1 with
   |false=>rfl
   |true=>
    simp only[zC,Option.bind_some,Sum.elim_inr,Bool.not_true,Bool.false_or]
    unfold Lo
    have e2:=cf gx m.2.1 h2 (fun i (x:aS) (s:Unit) K=>((mm x).bind fun r1=>(bif r1 then some (Sum.inl true) else K s))) (fun _=>some (Sum.inr ()))
     (fun k i s=>IB k i m) (fun k i s=>rfl) ()
    dsimp only
    rw[e2,HM _ _ h3]
    cases m.2.1.any vm<;>rfl
theorem zx0{m:Map}(h:xM m=false):ea m:=by
 unfold xM at h
 simp only[Bool.or_eq_false_iff,decide_eq_false_iff_not,Bool.not_eq_false'] at h
 obtain⟨h1,h2,h3,h4⟩:=h
 refine⟨⟨by omega,Gh (by omega) h3⟩,by omega,fun r hr=>VG ?_⟩
 cases hg:vm r with
 |false=>rfl
 |true=>rw[List.any_eq_true.2 ⟨r,hr,hg⟩] at h4;cases h4
theorem Gr{m:Map}(h:Wf Fi m):kj m=some (xM m):=
 S5 m h.1.1 h.2.1.1 fun r hr=>(h.2.1.2 r hr).2.2.2.2.1.1
theorem SG{r:aS}{b:zf}{t:ByteArray}(ht:t.size<=1099511627776)(hr:gE r):(fj r b t).1.2.1.size<=1099511627776:=by
 have h0:(bs []).size<=1099511627776:=by decide
 unfold fj
 cases decide (r.1=1) with
 |true=>exact ht
 |false=>
  rw[zD]
  cases decide (r.1=2) with
  |true=>exact h0
  |false=>
   rw[zD]
   cases decide (r.1=3) with
   |true=>exact hr.text
   |false=>
    rw[zD]
    cases decide (r.1=4) with
    |true=>
     rw[zC]
     cases bq b r.2.2.1 with
     |false=>exact h0
     |true=>
      rw[Bool.not_true,zD]
      cases hp:(eJ t (aO b r.2.2.1).2.2.2.1).2 with
      |false=>exact h0
      |true=>
       obtain⟨p1,p2,p3,p4⟩:=Hi hp
       show(eJ t (aO b r.2.2.1).2.2.2.1).1.size<=_
       omega
    |false=>
     rw[zD]
     cases decide (r.1=5) with
     |true=>
      rw[zC]
      cases hp:(zx r.2.2.2.2.1 t).2 with
      |false=>exact h0
      |true=>
       obtain⟨p,hm,_,hq⟩:=zbl hp
       show(zx r.2.2.2.2.1 t).1.size<=_
       rw[hq]
       exact(hr.hJ.sz p hm).2
     |false=>exact h0
theorem zfo{m:Map}{b:zf}:∀{l:List aQ} {f:bu},jq m b l= .inl f->f.1≠0
 | [],f,h=>by cases h
 |v::r,f,h=>by
  rw[jq] at h
  cases hf:dO m v.1 with
  |none=>rw[hf] at h;cases h;exact(by decide:(9:Int)≠0)
  |some q=>
   rw[hf] at h
   dsimp only at h
   by_cases hz:(fj q b v.2.1).2=0
   ·rw[zT hz,Bool.not_true,zD] at h
    cases hr:jq m b r with
    |inl g=>rw[hr] at h;cases h;exact zfo hr
    |inr ys=>rw[hr] at h;cases h
   ·rw[zF hz,Bool.not_false,zC] at h
    cases h;exact hz
structure bQ(m:Map)(a b:zf)(x:bd)(ys:List aQ):Prop where
 map:dD m a b
 msg:fu a x
 head:(zx m.1 x.1).2=true
 rQ:jq m b x.2.1= .inr ys
theorem SX(m:Map)(a b:zf)(x:bd):(∃f,f.1≠0/\pw m a b x=(cz,f))\/∃ys,bQ m a b x ys/\pw m a b x=(((zx m.1 x.1).1,mf (ys++iD m.2.1) 127 2,()),fB):=by
 rw[zrf]
 unfold Pu
 by_cases h1:(dw m a b).1=0
 ·rw[zT h1,Bool.not_true,zD]
  by_cases h2:(eI a x).1=0
  ·rw[zT h2,Bool.not_true,zD]
   cases h3:(zx m.1 x.1).2 with
   |false=>exact .inl ⟨_,by decide,rfl⟩
   |true=>
    rw[Bool.not_true,zD]
    cases h4:jq m b x.2.1 with
    |inl f=>exact .inl ⟨f,zfo h4,rfl⟩
    |inr ys=>exact .inr ⟨ys,⟨zms.1 h1,Iu.1 h2,h3,h4⟩,rfl⟩
  ·rw[zF h2];exact .inl ⟨_,h2,rfl⟩
 ·rw[zF h1];exact .inl ⟨_,by decide,rfl⟩
theorem bQ.eq{m:Map}{a b:zf}{x:bd}{ys:List aQ}(h:bQ m a b x ys):pw m a b x=(((zx m.1 x.1).1,mf (ys++iD m.2.1) 127 2,()),fB):=by
 rw[zrf]
 unfold Pu
 rw[zT (zms.2 h.map),Bool.not_true,zD,zT (Iu.2 h.msg),Bool.not_true,zD,h.head,h.rQ]
 rfl
section
variable {m:Map} {a b:zf} {x:bd} {ys:List aQ}
theorem bQ.gJ(h:bQ m a b x ys):(∀v∈x.2.1,bq a v.1=true/\aY (aO a v.1) v.2.1=0)/\iM x.2.1/\∀v∈x.2.1,0<v.1:=xt.1 h.msg.gJ
theorem bQ.ris(h:bQ m a b x ys):iM (mf (ys++iD m.2.1) 127 2):=by
 obtain⟨g1,g2,g3⟩:=h.gJ
 refine zbr ?_ 127 2 (by omega)
 rw[zga,zgb h.map]
 exact zq5 (zvw h.map g2 (fun v hv=>(g1 v hv).1) h.rQ)
theorem bQ.mem(h:bQ m a b x ys)(v:aQ):v∈mf (ys++iD m.2.1) 127 2↔v∈iD m.2.1\/(v∈ys/\v.1≠0):=by
 rw[KC,List.mem_append]
 have hr:=zvx h.map h.rQ
 constructor
 ·rintro⟨h1|h1,h2,h3⟩
  ·exact .inr ⟨h1,by omega⟩
  ·exact .inl h1
 ·rintro(h1|⟨h1,h2⟩)
  ·have:=Ab h.map.okB (hr v (List.mem_append_left _ h1))
   exact⟨.inr h1,by omega,by omega⟩
  ·have:=Ab h.map.okB (hr v (List.mem_append_right _ (Bs.2 ⟨h1,h2⟩)))
   exact⟨.inl h1,by omega,by omega⟩
theorem bQ.valid(h:bQ m a b x ys)(hm:ea m)(hx:dc x):∀v∈mf (ys++iD m.2.1) 127 2,bq b v.1=true/\v.2.1.size<=1099511627776/\aY (aO b v.1) v.2.1=0:=by
 intro v hv
 obtain⟨g1,g2,g3⟩:=h.gJ
 rcases(h.mem v).1 hv with hv|⟨hv,hz⟩
 ·obtain⟨r,hr,k,rfl⟩:=KE.1 hv
  have hc:=(KJ (h.map.rules r hr)).2.2.2
  unfold j7 at hc
  rw[zF (by omega:¬r.1=1),zT k,zD,zC] at hc
  exact⟨h.map.to hr (by omega),(hm.rules r hr).text,hc⟩
 ·obtain⟨w,hw,q,hf,h0,rfl⟩:=H9 h.rQ v hv
  obtain⟨b1,b2⟩:=Ij h0 hz
  obtain⟨qm,qf⟩:=Bp hf
  have hwt:=hx.me w hw
  have:=(z138 (r:=q) (a:=a) (b:=b) hwt (hm.rules q qm) (h.map.rules q qm) h.map.okB (fun _=>by rw[qf];exact(g1 w hw).2)).2 h0
  obtain⟨e1,e2,e3⟩:=this.2 b1
  rw[b2]
  exact⟨e2,SG hwt (hm.rules q qm),e3⟩
theorem Wq{t:ByteArray}{v:Int}(h:lV t v=true):zt t=true/\c8 t=v:=by
 unfold lV at h
 rw[Bool.and_eq_true,decide_eq_true_eq] at h
 refine⟨h.1,?_⟩
 unfold c8
 rw[h.1];exact h.2
theorem bQ.n4(h:bQ m a b x ys):zt (zx m.1 x.1).1=true/\c8 (zx m.1 x.1).1=b.2.1:=by
 obtain⟨p,hp,_,e⟩:=zbl h.head
 have ht:=h.map.typed p hp
 unfold xP at ht
 rw[Bool.and_eq_true,Bool.and_eq_true] at ht
 rw[e]
 exact Wq ht.2.1
theorem bQ.out(h:bQ m a b x ys)(hm:ea m)(hx:dc x):fu b ((zx m.1 x.1).1,mf (ys++iD m.2.1) 127 2,()):=by
 have hv:=h.valid hm hx
 refine⟨h.map.sb,h.n4.1,h.n4.2,xt.2 ⟨fun v hm=>⟨(hv v hm).1,(hv v hm).2.2⟩,h.ris,fun v hm=> ?_⟩⟩
 have:=Ab h.map.okB (hv v hm).1
 omega
end
theorem zvo:∀{l:List aQ} {lo:Int},iM l->(∀v∈l,lo<v.1/\v.1<=128)->(l.length:Int)<=max 0 (128-lo)
 | [],lo,_,_=>by simp;omega
 |x::r,lo,h,hr=>by
  have h:=List.pairwise_cons.1 h
  have hx:=hr x List.mem_cons_self
  have:=zvo (l:=r) (lo:=x.1) h.2 (fun v hv=>⟨h.1 v hv,(hr v (List.mem_cons_of_mem _ hv)).2⟩)
  simp only[List.length_cons]
  omega
theorem bQ.ok{m:Map}{a b:zf}{x:bd}{ys:List aQ}(h:bQ m a b x ys)(hm:ea m)(hx:dc x):dc ((zx m.1 x.1).1,mf (ys++iD m.2.1) 127 2,()):=by
 have hv:=h.valid hm hx
 refine⟨?_,?_,fun v mc=>(hv v mc).2.1⟩
 ·have:=(oc.1 h.n4.1).1
  show(zx m.1 x.1).1.size<=_
  omega
 ·have:=zvo (lo:=0) h.ris (fun v mc=>by have:=Ab h.map.okB (hv v mc).1;omega)
  show(mf (ys++iD m.2.1) 127 2).length<=_
  omega
def Ej(m:Map)(b:zf)(v:aQ):Prop:=∃q,dO m v.1=some q/\(fj q b v.2.1).2=0
theorem KG{m:Map}{b:zf}:∀{l:List aQ},(∃ys,jq m b l= .inr ys)↔∀v∈l,Ej m b v
 | []=>⟨fun _ v hv=>(by cases hv),fun _=>⟨[],rfl⟩⟩
 |v::r=>by
  rw[jq]
  constructor
  ·rintro⟨ys,h⟩ w hw
   cases hf:dO m v.1 with
   |none=>rw[hf] at h;cases h
   |some q=>
    rw[hf] at h
    dsimp only at h
    cases hz:decide ((fj q b v.2.1).2=0) with
    |false=>rw[hz] at h;cases h
    |true=>
     rw[hz,Bool.not_true,zD] at h
     rcases List.mem_cons.1 hw with rfl|hw
     ·exact⟨q,hf,of_decide_eq_true hz⟩
     ·cases hr:jq m b r with
      |inl g=>rw[hr] at h;cases h
      |inr zs=>exact KG.1 ⟨zs,hr⟩ w hw
  ·intro h
   obtain⟨q,hf,hz⟩:=h v List.mem_cons_self
   obtain⟨zs,hr⟩:=KG.2 fun w hw=>h w (List.mem_cons_of_mem _ hw)
   rw[hf,hr]
   dsimp only
   rw[zT hz]
   exact⟨_,rfl⟩
theorem bQ.part{m:Map}{a b:zf}{x:bd}{ys:List aQ}(h:bQ m a b x ys){l:List aQ}(hl:List.Sublist l x.2.1):∃zs,bQ m a b (x.1,l,()) zs:=by
 obtain⟨g1,g2,g3⟩:=h.gJ
 obtain⟨zs,hz⟩:=KG.2 fun v hv=>KG.1 ⟨ys,h.rQ⟩ v (hl.subset hv)
 exact⟨zs,h.map,⟨h.msg.hN,h.msg.right,h.msg.Kr,xt.2 ⟨fun v hv=>g1 v (hl.subset hv),g2.sublist hl,fun v hv=>g3 v (hl.subset hv)⟩⟩,h.head,hz⟩
end bn

namespace bn
open Go.IntKind renaming wrap->zW,i64->zI,u8->zU
open Go Go.Ref
def dY(style:Int)(m:ByteArray):ByteArray:=if style=1 then m else(oh m).1
def eS(s:zf):List aQ->ByteArray
 | []=>bs []
 |v::r=>(oe s.1 (aO s v.1) v.2.1).1++eS s r
def cA(m:bd):List Int:=m.2.1.map fun v=>v.1
def cQ(s:zf)(m:bd):ByteArray:=dY s.1 m.1++(cH s.1 (cg (cA m)) (cn (cA m))).1++eS s m.2.1
theorem VM(m:bd)(h:m.2.1.length<=1000000):pY m=some ((cg (cA m):Int),(cn (cA m):Int),()):=by
 unfold pY LJ
 dsimp only
 have key:∀(l:List aQ) (i:Int) (p:List Int),bj (fun i (x:aQ) (b:sN) K=>(vB b x.1).bind fun r1=>K r1) (fun b=>some (((0:Int),(0:Int),()),b)) l i ((cg p:Int),(cn p:Int),())=some (((0:Int),(0:Int),()),((cg (p++l.map fun v=>v.1):Int),(cn (p++l.map fun v=>v.1):Int),())):=by
  intro l
  induction l with
  |nil=>intro i p;rw[List.map_nil,List.append_nil];rfl
  |cons x r ih=>
   intro i p
   rw[bj,GR _ _ (pK p) (pM p),zc]
   have e1:cg p|||gF x.1=cg (p++ [x.1]):=by unfold cg;rw[List.foldl_append];rfl
   have e2:cn p|||gG x.1=cn (p++ [x.1]):=by unfold cn;rw[List.foldl_append];rfl
   rw[e1,e2]
   dsimp only
   rw[ih (i+1) (p++ [x.1]),List.map_cons,List.append_assoc];rfl
 have:=cf kI m.2.1 (by rw[zj];omega) (fun i (x:aQ) (b:sN) K=>(vB b x.1).bind fun r1=>K r1) (fun b=>some (((0:Int),(0:Int),()),b)) (fun k i b=>IJ k m.2.1 (m.2.1.length:Int) i ((0:Int),(0:Int),()) b) (fun k i b=>rfl) ((0:Int),(0:Int),())
 rw[this]
 have k2:=key m.2.1 0 []
 rw[show cg []=0 from rfl,show cn []=0 from rfl] at k2
 rw[show((0:Nat):Int)=0 from rfl] at k2
 rw[k2];rfl
theorem zy0(style:Int)(m:ByteArray):(dY style m).size<=m.size+500:=by
 unfold dY
 split
 ·omega
 ·have:=zf2 m;omega
theorem zq8(style:Int)(h l:Nat):(cH style h l).1.size<=32:=by
 have hz:cU style<=16:=by unfold cU;split<;>omega
 unfold cH
 split
 ·dsimp only
  split
  ·rw[xy];omega
  ·rw[zu,xy,xy];omega
 ·exact Nat.zero_le _
theorem zfa(style:Int)(s:Spec)(t:ByteArray):(oe style s t).1.size<=2*t.size+1000:=by
 unfold oe
 split
 ·exact Nat.zero_le _
 ·split
  ·exact Nat.zero_le _
  ·dsimp only
   rw[zu]
   have:=zxm style s.2.2.1 t.size
   have:=zwf (bK style s.2.1) t
   omega
theorem zwt(s:zf):∀l:List aQ,(∀v∈l,v.2.1.size<=1000)->(eS s l).size<=3000*l.length
 | [],_=>Nat.zero_le _
 |v::r,h=>by
  have h1:=zwt s r fun w hw=>h w (List.mem_cons_of_mem _ hw)
  have h2:=zfa s.1 (aO s v.1) v.2.1
  have h3:=h v List.mem_cons_self
  rw[eS,zu,List.length_cons]
  omega
structure eM(m:bd):Prop where
 n4:m.1.size<=1000
 len:m.2.1.length<=1000
 me:∀v∈m.2.1,v.2.1.size<=1000
theorem eM.ok{m:bd}(h:eM m):dc m:=⟨by have:=h.n4;omega,by have:=h.len;omega,fun v hv=>by have:=h.me v hv;omega⟩
theorem zws{s:zf}{m:bd}(h:eM m):(cQ s m).size<=3002000:=by
 have:=zwt s m.2.1 h.me
 have:=zy0 s.1 m.1
 have:=zq8 s.1 (cg (cA m)) (cn (cA m))
 have:=h.n4
 have:=h.len
 unfold cQ
 rw[zu,zu]
 omega
theorem Tx{s:zf}{m:bd}(hm:dc m)(h:fu s m):eM m:=by
 have ho:=(uM s).1 h.hN
 obtain⟨f1,f2,f3⟩:=xt.1 h.gJ
 refine⟨by have:=(oc.1 h.right).1;omega,?_,fun v hv=> ?_⟩
 ·have:=zvo (lo:=0) f2 (fun v hv=>by
   have:=K2 (KP ho (f1 v hv).1)
   have e:=(KY (f1 v hv).1).2
   rw[e] at this
   exact⟨by omega,by omega⟩)
  omega
 ·obtain⟨v1,v2,v3,_,_⟩:=(Aj _ _ (hm.me v hv)).1 (f1 v hv).2
  have:=AD v1
  omega
theorem zvs{x o:ByteArray}(h:o.size+x.size<=140737488355328):iI x o=some (o++x):=by
 unfold iI MV Ku
 rw[zT h,zC,zc]
theorem FL(s:zf)(hs:s.2.2.1.length<=maxLen)(f:bu):∀(l:List aQ) (i:Int) (o:ByteArray),(∀v∈l,v.2.1.size<=1000)->o.size+3000*l.length<=100000000->
 bj (fun i (x:aQ) (o:ByteArray) K=>(eD s x.1).bind fun r7=>(xU s.1 r7.1 x.2.1).bind fun r8=>(iI r8.1 o).bind fun r9=>K r9) (fun o=>some (f,o)) l i o=some (f,o++eS s l)
 | [],i,o,_,_=>by rw[eS,zva];rfl
 |x::r,i,o,h,ho=>by
  have hx:=h x List.mem_cons_self
  have hc:=zfa s.1 (aO s x.1) x.2.1
  rw[List.length_cons] at ho
  rw[bj,uR s _ hs,zc,Te _ _ _ (by omega),zc]
  dsimp only
  rw[zvs (by omega),zc]
  rw[FL s hs f r (i+1) _ (fun v hv=>h v (List.mem_cons_of_mem _ hv)) (by rw[zu];omega),eS,ByteArray.append_assoc]
theorem Zq(style:Int)(m:ByteArray)(hm:zt m=true)(hs:style=1\/style=2):∃k,qs style m=some (dY style m,k):=by
 have h4:=(oc.1 hm).1
 unfold qs MW dY
 rw[z9m m (by rw[zj];omega),zc,hm,Bool.not_true,zD]
 rcases hs with rfl|rfl
 ·exact⟨true,rfl⟩
 ·rw[zF (by decide),zD,zT rfl,zC,zf1 m (by rw[zj];omega),zc,if_neg (by decide)]
  exact⟨_,rfl⟩
def n8(s:zf)(m:bd):ByteArray×bu:=if(eI s m).1=0 then(cQ s m,fB) else(bs [],eI s m)
theorem zvt(s:zf)(m:bd)(hs:s.2.2.1.length<=maxLen)(h:dc m):mA s m=some (n8 s m):=by
 unfold mA MU n8
 rw[zl0 s m hs h,zc]
 by_cases h0:(eI s m).1=0
 case neg=>rw[zF h0,if_neg h0];rfl
 have hm:=Iu.1 h0
 have wT:=Tx h hm
 have ho:=(uM s).1 hm.hN
 obtain⟨k,hk⟩:=Zq s.1 m.1 hm.right ho.1
 have ht:=zy0 s.1 m.1
 have hb:=zq8 s.1 (cg (cA m)) (cn (cA m))
 have:=wT.n4
 have:=wT.len
 rw[zT h0,Bool.not_true,zD,if_pos h0,hk,zc,VM m (by omega)]
 have w1:iI (dY s.1 m.1) (bs [])=some (dY s.1 m.1):=by
  rw[zvs (by show 0+_<=_;omega),Pj]
 have w2:iI (cH s.1 (cg (cA m)) (cn (cA m))).1 (dY s.1 m.1)=some (dY s.1 m.1++(cH s.1 (cg (cA m)) (cn (cA m))).1):=zvs (by omega)
 dsimp only
 rw[w1,zc,zc,Yk _ _ _ (pK _) (pM _),zc,w2,zc]
 have hl:=cf kI m.2.1 (by rw[zj];omega) (fun i (x:aQ) (o:ByteArray) K=>(eD s x.1).bind fun r7=>(xU s.1 r7.1 x.2.1).bind fun r8=>(iI r8.1 o).bind fun r9=>K r9) (fun o=>some (fB,o)) (fun k i o=>I3 k m.2.1 (m.2.1.length:Int) i s fB o) (fun k i o=>rfl) (dY s.1 m.1++(cH s.1 (cg (cA m)) (cn (cA m))).1)
 rw[hl,FL s hs _ m.2.1 0 _ wT.me (by rw[zu];omega)]
 rfl
end bn

set_option maxRecDepth 10000
namespace bn
open Go.IntKind renaming wrap->zW,i64->zI,u8->zU
open Go Go.Ref
def dH(style:Int):Nat:=if style=2 then 2 else 4
def dZ(style:Int)(b:ByteArray):ByteArray:=if style=2 then(ib (b.extract 0 2) 4).1 else b.extract 0 4
def jK(s:zf)(b:ByteArray):Sum Int lq:=
 if b.size<dH s.1 then .inl 2 else if zt (dZ s.1 b)=true/\c8 (dZ s.1 b)=s.2.1 then .inr (dZ s.1 b,dH s.1) else .inl 7
def eG(s:zf)(b:ByteArray):List Int->Nat->List aQ->List aQ×bu
 | [],a,o=>(o,if a<b.size then(12,129,()) else fB)
 |no::r,a,o=>if bq s no=false then(o,(9,no,())) else if¬(kP s.1 (aO s no) b a).2.2=0 then(o,((kP s.1 (aO s no) b a).2.2,no,())) else eG s b r (kP s.1 (aO s no) b a).2.1.toNat (o++ [(no,(kP s.1 (aO s no) b a).1,())])
def lz(s:zf)(b t:ByteArray)(g:Nat×Nat×Int×Int):bd×bu:=
 if¬g.2.2.2=0 then((t,[],()),(g.2.2.2,1,())) else((t,(eG s b (elems g.1 g.2.1) g.2.2.1.toNat []).1,()),(eG s b (elems g.1 g.2.1) g.2.2.1.toNat []).2)
def tX(s:zf)(b:ByteArray):Sum Int lq->bd×bu
 | .inl e=>(cz,(e,0,()))
 | .inr q=>lz s b q.1 (aW s.1 b q.2)
def gI(s:zf)(b:ByteArray):bd×bu:=if¬(gB s).1=0 then(cz,(1,-1,())) else tX s b (jK s b)
def zJ:Sum Int lq->ByteArray×Int×Int
 | .inl e=>(bs [],0,e)
 | .inr q=>(q.1,(q.2:Int),0)
theorem zy1(style:Int)(b:ByteArray):(dZ style b).size<=2000:=by
 unfold dZ
 split
 ·generalize hg:ib (b.extract 0 2) 4=g
  obtain⟨t,e,i⟩:=g
  have:=H7 hg
  dsimp only;omega
 ·rw[ByteArray.size_extract];omega
theorem zy2(s:zf)(t:ByteArray)(z:Nat)(ht:t.size<=2000):((ic t).bind fun r3=>(bif(!r3.2) then some (bs [],(0:Int),(7:Int)) else(bif(!(decide (r3.1=s.2.1))) then some (bs [],(0:Int),(7:Int)) else some (t,(z:Int),(0:Int)))))=some (zJ (if zt t=true/\c8 t=s.2.1 then .inr (t,z) else .inl 7)):=by
 rw[KA t (by rw[zj];omega),zc]
 dsimp only
 cases hr:zt t with
 |false=>rfl
 |true=>
  rw[Bool.not_true,zD]
  by_cases hv:c8 t=s.2.1
  ·rw[zT hv,if_pos ⟨rfl,hv⟩];rfl
  ·rw[zF hv,if_neg (fun h=>hv h.2)];rfl
theorem Wo(s:zf)(b:ByteArray)(hb:b.size<=1099511627776):qk s b=some (zJ (jK s b)):=by
 have h4:Q2 4=some 2:=by have:=Ie 4 (by decide) (by decide);exact this
 have e0:((2:Int)).toNat=2:=rfl
 have e4:((4:Int)).toNat=4:=rfl
 have gj:=zy1 s.1 b
 unfold qk MD jK
 by_cases h2:s.1=2
 ·have hz:dH 2=2:=rfl
  have hT:dZ 2 b=(ib (b.extract 0 2) 4).1:=rfl
  rw[h2] at gj
  simp only[h2,decide_true,zC,h4,zc,e0]
  rw[hz]
  by_cases hc:b.size<2
  ·rw[zT (by omega),if_pos hc];rfl
  ·rw[zF (by omega),zD,zT (by decide),zC,zT (by omega),zC,if_neg hc,zf0 _ _ (by rw[ByteArray.size_extract];omega),zc,<-hT]
   exact zy2 s (dZ 2 b) 2 gj
 ·have hz:dH s.1=4:=by unfold dH;rw[if_neg h2]
  have hT:dZ s.1 b=b.extract 0 4:=by unfold dZ;rw[if_neg h2]
  simp only[h2,decide_false,zD,e4]
  rw[hz]
  by_cases hc:b.size<4
  ·rw[zT (by omega),if_pos hc];rfl
  ·rw[zF (by omega),zD,zT (by omega),zC,if_neg hc,<-hT]
   exact zy2 s (dZ s.1 b) 4 gj
theorem SS{h l:Nat}{pre r:List Int}{no:Int}(he:elems h l=pre++no::r):gm h l no=r.headD 0:=by
 have hs:=z8o h l
 rw[he] at hs
 have hp:=List.pairwise_append.1 hs
 have hq:=List.pairwise_cons.1 hp.2.1
 unfold gm
 rw[he,List.filter_append,List.filter_eq_nil_iff.2 (fun x hx=>by have:=hp.2.2 x hx no List.mem_cons_self;simp;omega),List.nil_append,List.filter_cons_of_neg (by simp),List.filter_eq_self.2 (fun x hx=>by have:=hq.1 x hx;simp;omega)]
theorem Tz(h l:Nat):gm h l 0=(elems h l).headD 0:=by
 unfold gm
 rw[List.filter_eq_self.2 (fun x hx=>by have:=zft ((Bq h l x).1 hx);simp;omega)]
theorem Iq(h l:Nat):(elems h l).length<=128:=by
 unfold elems
 exact Nat.le_trans (List.length_filter_le _ _) (by rw[Y3];exact Nat.le_refl _)
theorem zwc{style:Int}{s:Spec}{b:ByteArray}{a:Nat}(hb:b.size<=1099511627776)(h:(kP style s b a).2.2=0):(((kP style s b a).2.1.toNat:Nat):Int)=(kP style s b a).2.1:=by
 generalize hg:kP style s b a=g at h⊢
 obtain⟨t,z,e⟩:=g
 dsimp only at h⊢
 subst h
 have:=(zqb hb hg).2.2.1
 omega
def qH(b:ByteArray)(e:Sum (ByteArray×Int×bd×bu×bd) (ByteArray×Int×bd×bu×bd)):Option (bd×bu):=Sum.elim (fun we=>some (we.2.2.1,we.2.2.2.1)) (fun we=>bif(decide (we.2.1<(we.1.size:Int))) then some (we.2.2.2.2,((12:Int),(129:Int),())) else some (we.2.2.2.2,fB)) e
theorem zl8(s:zf)(hs:s.2.2.1.length<=maxLen)(b t:ByteArray)(hb:b.size<=1099511627776)(h l:Nat)(hh:h<cB)(hl:l<cB):∀(r pre:List Int) (k a:Nat) (o:List aQ),elems h l=pre++r->o.length<=pre.length->r.length<k->
 (Ap k b (a:Int) (r.headD 0) s cz fB (t,o,()) ((h:Int),(l:Int),())).bind (qH b)=some ((t,(eG s b r a o).1,()),(eG s b r a o).2)
 |r,pre,0,a,o,_,_,hk=>by omega
 | [],pre,k+1,a,o,he,ho,hk=>by
   unfold Ap I2 eG
   rw[show([]:List Int).headD 0=0 from rfl,zT (p:=(0:Int)=0) rfl,Bool.not_true,zD,zc]
   unfold qH
   rw[Sum.elim_inr]
   dsimp only
   by_cases hc:a<b.size
   ·rw[zT (by omega),if_pos hc];rfl
   ·rw[zF (by omega),if_neg hc];rfl
 |no::r,pre,k+1,a,o,he,ho,hk=>by
  have fx:no∈elems h l:=by rw[he];exact List.mem_append_right _ List.mem_cons_self
  have qU:=zft ((Bq h l no).1 fx)
  have hlen:=Iq h l
  rw[he,List.length_append,List.length_cons] at hlen
  rw[List.length_cons] at hk
  unfold Ap I2 eG
  rw[show(no::r).headD 0=no from rfl,zF (by omega:¬no=0),Bool.not_false,zC,uR s _ hs,zc]
  dsimp only
  cases hf:bq s no with
  |false=>rfl
  |true=>
   rw[Bool.not_true,zD,if_neg (by decide),Td _ _ _ _ hb,zc]
   by_cases hz:(kP s.1 (aO s no) b a).2.2=0
   case neg=>rw[zF hz,if_pos hz];rfl
   rw[zT hz,Bool.not_true,zD,if_neg (fun h=>h hz),zT (by simp only[List.length_singleton];omega),zC,Gw h l hh hl no (by omega) (by omega),zc,SS he,<-zwc hb hz]
   exact zl8 s hs b t hb h l hh hl r (pre++ [no]) k _ _ (by rw[he,List.append_assoc];rfl) (by rw[List.length_append,List.length_append,List.length_singleton,List.length_singleton];omega) (by omega)
theorem FD{style:Int}{b:ByteArray}{a:Nat}(h:(aW style b a).2.2.2=0):(aW style b a).1<cB/\(aW style b a).2.1<cB/\(((aW style b a).2.2.1.toNat:Nat):Int)=(aW style b a).2.2.1:=by
 generalize hg:aW style b a=g at h⊢
 obtain⟨h',l,z,e⟩:=g
 dsimp only at h⊢
 subst h
 obtain⟨_,q1,q2,q3,_⟩:=Yl hg
 exact⟨by show h'<18446744073709551616;omega,q2,by omega⟩
theorem TP(s:zf)(b:ByteArray)(hs:s.2.2.1.length<=maxLen)(hb:b.size<=1099511627776):oF s b=some (gI s b):=by
 unfold oF MC gI
 rw[z85 s hs,zc]
 by_cases h0:(gB s).1=0
 case neg=>rw[zF h0,if_pos h0];rfl
 rw[zT h0,Bool.not_true,zD,if_neg (fun h=>h h0),Wo s b hb,zc]
 cases ht:jK s b with
 |inl e=>
  have he:e≠0:=by
   unfold jK at ht
   split at ht
   ·cases ht;decide
   ·split at ht
    ·cases ht
    ·cases ht;decide
  exact Cg he
 |inr q=>
  obtain⟨t,z⟩:=q
  refine(AR (p:=(0:Int)=0) rfl).trans ?_
  dsimp only[zJ,tX,lz]
  rw[Yj _ _ _ hb,zc]
  by_cases he:(aW s.1 b z).2.2.2=0
  case neg=>rw[if_pos he];exact Cg he
  rw[if_neg (fun h=>h he)]
  refine(AR he).trans ?_
  obtain⟨q1,q2,q3⟩:=FD he
  dsimp only[bmR]
  rw[Gw _ _ q1 q2 0 (by decide) (by decide),zc,Tz,<-q3]
  exact zl8 s hs b t hb _ _ q1 q2 (elems (aW s.1 b z).1 (aW s.1 b z).2.1) [] ag _ [] rfl (Nat.le_refl _) (by have:=Iq (aW s.1 b z).1 (aW s.1 b z).2.1;rw[zr];omega)
end bn

set_option maxRecDepth 10000
namespace bn
open Go.IntKind renaming wrap->zW,i64->zI,u8->zU
open Go Go.Ref
theorem zr6(s:zf)(hs:s.2.2.1.length<=maxLen)(b t:ByteArray)(hb:b.size<=1099511627776)(L:List Int)(hL:L.length<=1000):∀(n j k a:Nat) (o:List aQ),j+n=L.length->o.length<=j->n<k->
 (xC k b L (a:Int) (j:Int) s cz fB (t,o,())).bind (qH b)=some ((t,(eG s b (L.drop j) a o).1,()),(eG s b (L.drop j) a o).2)
 |n,j,0,a,o,_,_,hk=>by omega
 |0,j,k+1,a,o,hj,ho,hk=>by
  unfold xC Iz
  rw[zF (by omega),zD,List.drop_eq_nil_of_le (by omega),zc]
  unfold qH eG
  rw[Sum.elim_inr]
  dsimp only
  by_cases hc:a<b.size
  ·rw[zT (by omega),if_pos hc];rfl
  ·rw[zF (by omega),if_neg hc];rfl
 |n+1,j,k+1,a,o,hj,ho,hk=>by
  have ar:j<L.length:=by omega
  have hw:∀{R:Type} (z:Option R),zd (j:Int) L.length z=z:=fun z=>zi ar
  unfold xC Iz
  rw[zT (by omega),zC,List.drop_eq_getElem_cons ar,eG]
  simp only[hw,YI ar]
  rw[zvu s _ hs,zc]
  rcases zx7 s L[j] with⟨i1,i2,i3⟩|⟨i1,i2,i3,i4⟩
  ·rw[i1,zT (by decide),zC,if_pos i2];rfl
  ·rw[zF (by omega),zD,zm i1 i2,i4,if_neg (by rw[i3];decide),WH _ _ _ _ hb,zc]
   by_cases hz:(kP s.1 (aO s L[j]) b a).2.2=0
   case neg=>rw[zF hz,if_pos hz];rfl
   rw[zT hz,Bool.not_true,zD,if_neg (fun h=>h hz),zT (by simp only[List.length_singleton];omega),zC,zw (by omega),<-zwc hb hz]
   exact zr6 s hs b t hb L hL n (j+1) k _ _ (by omega) (by rw[List.length_append,List.length_singleton];omega) (by omega)
def H4(s:zf)(b t:ByteArray)(z:Int):Option (bd×bu):=
 (jy t).bind fun r3=>(bif(!r3) then some (cz,((7:Int),(0:Int),())) else(zd (0:Int) t.size (bif(!(decide ((zW zI ((zW zI (ze t ((0:Int)).toNat))-(48:Int)))=s.2.1))) then some (cz,((7:Int),(0:Int),())) else((s4 s.1 b z).bind fun r4=>(bif(!(decide (r4.2.2=(0:Int)))) then some ((t,[],()),(r4.2.2,(1:Int),())) else(xC ag b r4.1 r4.2.1 0 s cz fB (t,[],())).bind (qH b))))))
theorem zxw(s:zf)(hs:s.2.2.1.length<=maxLen)(b t:ByteArray)(z:Nat)(hb:b.size<=1099511627776)(ht:t.size<=2000):H4 s b t z=some (tX s b (if zt t=true/\c8 t=s.2.1 then .inr (t,z) else .inl 7)):=by
 unfold H4
 rw[zq1 t (by rw[zj];omega),zc]
 cases hr:zt t with
 |false=>rfl
 |true=>
  have h4:=(oc.1 hr).1
  have hd:=sK hr 0 (by decide)
  have hv:c8 t=ze t 0-48:=by unfold c8;rw[hr];rfl
  have e1:zW zI (ze t 0)=ze t 0:=zg (by omega) (by omega)
  have e2:zW zI (ze t 0-48)=ze t 0-48:=zg (by omega) (by omega)
  rw[Bool.not_true,zD,h4,show(0:Int)=((0:Nat):Int) from rfl,zi (by decide),Int.toNat_natCast,e1,e2,<-hv]
  by_cases he:c8 t=s.2.1
  case neg=>rw[zF he,if_neg (fun h=>he h.2)];rfl
  rw[zT he,Bool.not_true,zD,if_pos ⟨rfl,he⟩,WE _ _ _ hb,zc]
  dsimp only[tX,lz]
  by_cases hz:(aW s.1 b z).2.2.2=0
  ·obtain⟨q1,q2,q3⟩:=FD hz
   have hg:er (aW s.1 b z)=(elems (aW s.1 b z).1 (aW s.1 b z).2.1,(aW s.1 b z).2.2.1,0):=by
    unfold er
    rw[if_pos hz]
   rw[hg,if_neg (fun h=>h hz)]
   refine(AR (p:=(0:Int)=0) rfl).trans ?_
   dsimp only
   have:=zr6 s hs b t hb (elems (aW s.1 b z).1 (aW s.1 b z).2.1) (by have:=Iq (aW s.1 b z).1 (aW s.1 b z).2.1;omega) (elems (aW s.1 b z).1 (aW s.1 b z).2.1).length 0 ag (aW s.1 b z).2.2.1.toNat [] (by omega) (Nat.le_refl _) (by have:=Iq (aW s.1 b z).1 (aW s.1 b z).2.1;rw[zr];omega)
   rw[q3,List.drop_zero] at this
   exact this
  ·have hg:er (aW s.1 b z)=([],0,(aW s.1 b z).2.2.2):=by
    unfold er
    rw[if_neg hz]
   rw[hg,if_pos hz]
   exact Cg hz
theorem Sx(s:zf)(b:ByteArray)(hs:s.2.2.1.length<=maxLen)(hb:b.size<=1099511627776):pT s b=some (gI s b):=by
 have gj:=zy1 s.1 b
 unfold pT BC gI
 rw[zq0 s hs,zc]
 by_cases h0:(gB s).1=0
 case neg=>rw[zF h0,if_pos h0];rfl
 rw[zT h0,Bool.not_true,zD,if_neg (fun h=>h h0)]
 unfold jK
 by_cases h2:s.1=2
 ·have hz:dH s.1=2:=by unfold dH;rw[if_pos h2]
  have hT:dZ s.1 b=(ib (b.extract 0 2) 4).1:=by unfold dZ;rw[if_pos h2]
  rw[zT h2,zC,hz]
  by_cases hc:b.size<2
  ·rw[zT (by omega),if_pos hc];rfl
  ·rw[zF (by omega),zD,zT (by omega),zC,zC,show((2:Int)).toNat=2 from rfl,zld _ _ (by rw[ByteArray.size_extract];omega),zc,<-hT,if_neg hc]
   exact zxw s hs b (dZ s.1 b) 2 hb gj
 ·have hz:dH s.1=4:=by unfold dH;rw[if_neg h2]
  have hT:dZ s.1 b=b.extract 0 4:=by unfold dZ;rw[if_neg h2]
  rw[zF h2,zD,hz]
  by_cases hc:b.size<4
  ·rw[zT (by omega),if_pos hc];rfl
  ·rw[zF (by omega),zD,zT (by omega),zC,zD,show((4:Int)).toNat=4 from rfl,<-hT,if_neg hc]
   exact zxw s hs b (dZ s.1 b) 4 hb gj
theorem Ge:∀{l r:List Int},l.Pairwise (· < ·)->r.Pairwise (· < ·)->(∀v,v∈l↔v∈r)->l=r
 | [],[],_,_,_=>rfl
 | [],y::r,_,_,h=>by have:=(h y).2 List.mem_cons_self;cases this
 |x::l,[],_,_,h=>by have:=(h x).1 List.mem_cons_self;cases this
 |x::l,y::r,h1,h2,h=>by
  obtain⟨a1,a2⟩:=List.pairwise_cons.1 h1
  obtain⟨b1,b2⟩:=List.pairwise_cons.1 h2
  have e:x=y:=by
   rcases List.mem_cons.1 ((h x).1 List.mem_cons_self) with e|hx
   ·exact e
   ·rcases List.mem_cons.1 ((h y).2 List.mem_cons_self) with e|hy
    ·exact e.symm
    ·have:=a1 y hy;have:=b1 x hx;omega
  subst e
  rw[Ge a2 b2 fun v=>⟨fun hv=> ?_,fun hv=> ?_⟩]
  ·rcases List.mem_cons.1 ((h v).1 (List.mem_cons_of_mem _ hv)) with e|h3
   ·have:=a1 v hv;omega
   ·exact h3
  ·rcases List.mem_cons.1 ((h v).2 (List.mem_cons_of_mem _ hv)) with e|h3
   ·have:=b1 v hv;omega
   ·exact h3
theorem YB{l:List Int}(hs:l.Pairwise (· < ·))(hr:∀x∈l,1<=x/\x<=128):elems (cg l) (cn l)=l:=
 Ge (z8o _ _) hs fun v=>by
  rw[Bq,BW]
  unfold gX
  constructor
  ·intro h
   rw[Bool.and_eq_true,decide_eq_true_eq] at h
   exact h.1
  ·intro h
   rw[Bool.and_eq_true,decide_eq_true_eq,decide_eq_true_eq]
   exact⟨h,hr v h⟩
theorem Hd{s:zf}(h:fW s){no:Int}(hh:bq s no=true):2<=no/\no<=128:=by
 have:=K2 (KP h hh)
 rw[(KY hh).2] at this
 exact this
theorem zwj(s:zf)(ho:fW s):∀(l o:List aQ) (x:ByteArray),(∀v∈l,bq s v.1=true/\aY (aO s v.1) v.2.1=0/\v.2.1.size<=1000)->eG s (x++eS s l) (l.map fun v=>v.1) x.size o=(o++l,fB)
 | [],o,x,_=>by
   rw[eS,zva,List.append_nil,List.map_nil,eG,if_neg (by omega)]
 |v::r,o,x,h=>by
  obtain⟨h1,h2,h3⟩:=h v List.mem_cons_self
  have hb:=Vj (style:=s.1) ho.1 (by omega) h2 x (eS s r)
  have e1:x++eS s (v::r)=x++(oe s.1 (aO s v.1) v.2.1).1++eS s r:=by rw[eS,ByteArray.append_assoc]
  rw[List.map_cons,eG,if_neg (by rw[h1];decide),e1,hb]
  dsimp only
  rw[if_neg (fun h=>h rfl),Int.toNat_natCast,<-zu,zwj s ho r _ (x++(oe s.1 (aO s v.1) v.2.1).1) fun w hw=>h w (List.mem_cons_of_mem _ hw),List.append_assoc]
  rfl
theorem zxz{s:zf}(hs:s.1=1\/s.1=2){m y:ByteArray}(hm:zt m=true):dZ s.1 (dY s.1 m++y)=m/\(dY s.1 m).size=dH s.1:=by
 obtain⟨h4,hd⟩:=oc.1 hm
 have e0:∀(p:ByteArray) (k:Nat),p.size=k->(p++y).extract 0 k=p:=fun p k hk=>by
  have:=Nl (bs []) p y
  rw[Pj,show(bs []).size=0 from rfl,Nat.zero_add,hk] at this
  exact this
 unfold dZ dY dH
 rcases hs with hs|hs
 ·have n2:¬s.1=2:=by omega
  rw[if_neg n2,if_pos hs,if_neg n2]
  exact⟨e0 m 4 h4,h4⟩
 ·have n1:¬s.1=1:=by omega
  have hz:(oh m).1.size=2:=by rw[H8 (by omega) hd,h4]
  rw[if_pos hs,if_neg n1,if_pos hs,e0 _ 2 hz]
  have:=zmd (s:=m) (by omega) hd
  rw[h4] at this
  rw[show(4:Int)=((4:Nat):Int) from rfl,this]
  exact⟨rfl,hz⟩
theorem FH{s:zf}{m:bd}(h:fu s m)(wT:eM m):gI s (cQ s m)=(m,fB):=by
 have ho:=(uM s).1 h.hN
 obtain⟨f1,f2,f3⟩:=xt.1 h.gJ
 have EK:∀n∈cA m,2<=n/\n<=128:=fun n hn=>by
  obtain⟨v,hv,rfl⟩:=List.mem_map.1 hn
  exact Hd ho (f1 v hv).1
 have yQ:(cA m).Pairwise (· < ·):=List.pairwise_map.2 f2
 have dF:=YB yQ fun x hx=>by have:=EK x hx;omega
 have h1:cg (cA m)<9223372036854775808:=by
  have:=acY (cA m)
  rw[zF (fun h1=>by have:=EK 1 h1;omega)] at this
  cases hd:decide (cg (cA m)<9223372036854775808) with
  |true=>exact of_decide_eq_true hd
  |false=>rw[hd] at this;cases this
 obtain⟨t1,t2⟩:=zxz (s:=s) ho.1 (m:=m.1) (y:=(cH s.1 (cg (cA m)) (cn (cA m))).1++eS s m.2.1) h.right
 have e1:cQ s m=dY s.1 m.1++((cH s.1 (cg (cA m)) (cn (cA m))).1++eS s m.2.1):=by unfold cQ;rw[ByteArray.append_assoc]
 have hb:=aaY (style:=s.1) ho.1 h1 (pM (cA m)) (dY s.1 m.1) (eS s m.2.1)
 have di:dH s.1<=(cQ s m).size:=by rw[e1,zu,t2];omega
 unfold gI
 rw[if_neg (fun hn=>hn h.hN)]
 have hT:jK s (cQ s m)= .inr (m.1,dH s.1):=by
  unfold jK
  rw[if_neg (by omega),e1,t1,if_pos ⟨h.right,h.Kr⟩]
 rw[hT]
 show lz s (cQ s m) m.1 (aW s.1 (cQ s m) (dH s.1))=_
 rw[<-t2]
 show lz s (cQ s m) m.1 (aW s.1 (dY s.1 m.1++(cH s.1 (cg (cA m)) (cn (cA m))).1++eS s m.2.1) (dY s.1 m.1).size)=_
 rw[hb]
 unfold lz
 dsimp only
 rw[if_neg (fun hn=>hn rfl),Int.toNat_natCast,dF]
 have hd:=zwj s ho m.2.1 [] (dY s.1 m.1++(cH s.1 (cg (cA m)) (cn (cA m))).1) fun v hv=>⟨(f1 v hv).1,(f1 v hv).2,wT.me v hv⟩
 rw[zu] at hd
 have J5:eG s (cQ s m) (cA m) ((dY s.1 m.1).size+(cH s.1 (cg (cA m)) (cn (cA m))).1.size) []=([]++m.2.1,fB):=hd
 rw[J5]
 rfl
abbrev bh:=zf×Map×List Int×List aQ×Unit
abbrev xq:aQ:=(0,bs [],())
def jY(s:zf)(prev:List Int)(no:Int):Int:=bif !bq s no then 9 else bif decide (no=39) then 1 else bif decide (no∈prev) then 10 else 0
def gW(s:zf):List Int->List Int->Int->Option (Int×Int)
 |_,[],_=>none
 |prev,no::r,i=>bif decide (jY s prev no=0) then gW s (prev++ [no]) r (i+1) else some (jY s prev no,i)
def gU(a:Spec)(prev:List Int)(c:aQ):Int:=bif decide (c.1<0) then 1 else bif decide (16<c.1) then 1 else bif decide (c.1∈prev) then 10 else aY a c.2.1
def fD(a:Spec):List Int->List aQ->Int->Option (Int×Int)
 |_,[],_=>none
 |prev,c::r,i=>bif decide (gU a prev c=0) then fD a (prev++ [c.1]) r (i+1) else some (gU a prev c,i)
def gv(s:bh):Int×Int×Int:=
 bif !decide ((gB s.1).1=0) then(1,1,0) else bif !bq s.1 39 then(9,1,1) else match gW s.1 [] s.2.2.1 0 with
  |some e=>(e.1,2,e.2)
  |none=>match fD (aO s.1 39) [] s.2.2.2.1 0 with
   |some e=>(e.1,3,e.2)
   |none=>bif decide ((0:Int)∈s.2.2.2.1.map fun c=>c.1) then(0,0,0) else(15,3,(s.2.2.2.1.length:Int))
structure dE(s:bh):Prop where
 hN:s.1.2.2.1.length<=maxLen
 yn:s.2.2.1.length<=1000000
 iT:s.2.2.2.1.length<=1000000
 me:∀c∈s.2.2.2.1,c.2.1.size<=1099511627776
theorem FX(no:Int):∀(l:List Int) (i:Int),0<=i->∃r,bj (fun i (x:Int) (s:Unit) K=>bif decide (no=x) then some (Sum.inl i) else K s) (fun _=>some (Sum.inr ())) l i ()=some r/\(no∈l->∃j,r= .inl j/\0<=j)/\(no∉l->r= .inr ())
 | [],i,_=>⟨_,rfl,fun h=>(by cases h),fun _=>rfl⟩
 |x::l,i,h=>by
  rw[bj]
  by_cases e:no=x
  ·rw[zT e,zC]
   exact⟨_,rfl,fun _=>⟨i,rfl,h⟩,fun hn=>absurd (by rw[e];exact List.mem_cons_self) hn⟩
  ·rw[zF e,zD]
   obtain⟨r,h1,h2,h3⟩:=FX no l (i+1) (by omega)
   exact⟨r,h1,fun hm=>h2 ((List.mem_cons.1 hm).resolve_left e),fun hn=>h3 fun hm=>hn (List.mem_cons_of_mem _ hm)⟩
theorem zym(l:List Int)(no:Int)(h:l.length<=maxLen):qi l no=some (decide (no∈l)):=by
 unfold qi Mq sU Mw
 have:=cf (0:Int) l h (fun i (x:Int) (s:Unit) K=>bif decide (no=x) then some (Sum.inl i) else K s) (fun _=>some (Sum.inr ()))
  (fun k i s=>I1 k l no (l.length:Int) i) (fun k i s=>rfl) ()
 dsimp only
 obtain⟨r,h1,h2,h3⟩:=FX no l 0 (Int.le_refl _)
 rw[this,h1,zc]
 by_cases hm:no∈l
 ·obtain⟨j,rfl,hj⟩:=h2 hm
  rw[zT hm]
  show some (decide (0<=j))=_
  rw[zT hj]
 ·rw[h3 hm,zF hm];rfl
theorem FY(c:aQ):∀(l:List aQ) (i:Int),0<=i->∃r,bj (fun i (x:aQ) (s:aQ) K=>((oD x s).bind fun r1=>(bif r1.1 then some (Sum.inl (i,r1.2)) else K r1.2))) (fun s=>some (Sum.inr s)) l i c=some r/\(c.1∈l.map (fun v=>v.1)->∃j,r= .inl (j,c)/\0<=j)/\(c.1∉l.map (fun v=>v.1)->r= .inr c)
 | [],i,_=>⟨_,rfl,fun h=>(by cases h),fun _=>rfl⟩
 |x::l,i,h=>by
  rw[bj]
  unfold oD L9
  rw[zc]
  dsimp only
  rw[List.map_cons]
  by_cases e:x.1=c.1
  ·rw[zT e,zC]
   exact⟨_,rfl,fun _=>⟨i,rfl,h⟩,fun hn=>absurd (by rw[e];exact List.mem_cons_self) hn⟩
  ·rw[zF e,zD]
   obtain⟨r,h1,h2,h3⟩:=FY c l (i+1) (by omega)
   exact⟨r,h1,fun hm=>h2 ((List.mem_cons.1 hm).resolve_left fun e2=>e e2.symm),fun hn=>h3 fun hm=>hn (List.mem_cons_of_mem _ hm)⟩
theorem zyn(l:List aQ)(c:aQ)(h:l.length<=maxLen):qh l c=some (decide (c.1∈l.map fun v=>v.1),c):=by
 unfold qh Mp sT Ms
 have:=cf xq l h (fun i (x:aQ) (s:aQ) K=>((oD x s).bind fun r1=>(bif r1.1 then some (Sum.inl (i,r1.2)) else K r1.2))) (fun s=>some (Sum.inr s))
  (fun k i s=>IZ k l (l.length:Int) i s) (fun k i s=>rfl) c
 dsimp only
 obtain⟨r,h1,h2,h3⟩:=FY c l 0 (Int.le_refl _)
 rw[this,h1,zc]
 by_cases hm:c.1∈l.map fun v=>v.1
 ·obtain⟨j,rfl,hj⟩:=h2 hm
  rw[zT hm]
  show some (decide (0<=j),c)=_
  rw[zT hj]
 ·rw[h3 hm,zF hm];rfl
theorem zvg{α:Type}{l:List α}{j:Nat}(h:j<l.length)(d:α):l.getD j d=l[j]:=by rw[List.getD_eq_getElem?_getD,List.getElem?_eq_getElem h];rfl
theorem aa8(s:bh)(h:dE s){j:Nat}(hj:j<s.2.2.1.length):qc s (j:Int)=some (jY s.1 (s.2.2.1.take j) s.2.2.1[j]):=by
 have he:=h.yn
 unfold qc Ma jY
 rw[zi hj,Int.toNat_natCast,zvg hj,uR s.1 _ h.hN,zc]
 cases bq s.1 s.2.2.1[j] with
 |false=>rfl
 |true=>
  dsimp only
  rw[Bool.not_true,zD,zD]
  cases decide (s.2.2.1[j]=39) with
  |true=>rfl
  |false=>
   rw[zD,zD,zT (by omega),zC,zT (by omega),zC,List.drop_zero,zym _ _ (by rw[List.length_take,zj];omega),zc]
   cases decide (s.2.2.1[j]∈s.2.2.1.take j)<;>rfl
theorem aa5(s:bh)(h:dE s)(a:Spec){j:Nat}(hj:j<s.2.2.2.1.length):qb s (j:Int) a=some (gU a ((s.2.2.2.1.take j).map fun c=>c.1) s.2.2.2.1[j]):=by
 have he:=h.iT
 have ht:=h.me _ (List.getElem_mem hj)
 unfold qb L8 gU
 rw[zi hj,Int.toNat_natCast,zvg hj]
 cases decide (s.2.2.2.1[j].1<0) with
 |true=>rfl
 |false=>
  rw[zD,zD]
  cases decide (16<s.2.2.2.1[j].1) with
  |true=>rfl
  |false=>
   rw[zD,zD,zT (by omega),zC,zT (by omega),zC,List.drop_zero,zyn _ _ (by rw[List.length_take,zj];omega),zc]
   dsimp only
   cases decide (s.2.2.2.1[j].1∈(s.2.2.2.1.take j).map fun c=>c.1) with
   |true=>rfl
   |false=>rw[zD,zD,sr _ _ ht];rfl
theorem zwr(s:bh)(h:dE s)(sp:Spec):∀(n j k:Nat),j+n=s.2.2.1.length->n<k->Am k (s.2.2.1.length:Int) (j:Int) s sp=some (match gW s.1 (s.2.2.1.take j) (s.2.2.1.drop j) j with
 |some e=> .inl (e.1,2,e.2,s,sp)
 |none=> .inr (s,sp))
 |n,j,0,_,hk=>by omega
 |0,j,k+1,hj,hk=>by
  unfold Am IQ
  rw[zF (by omega),zD,List.drop_eq_nil_of_le (by omega)];rfl
 |n+1,j,k+1,hj,hk=>by
  have ar:j<s.2.2.1.length:=by omega
  have he:=h.yn
  unfold Am IQ
  rw[zT (by omega),zC,aa8 s h ar,zc,List.drop_eq_getElem_cons ar,gW]
  cases decide (jY s.1 (s.2.2.1.take j) s.2.2.1[j]=0) with
  |false=>rfl
  |true=>
   rw[Bool.not_true,zD,zC]
   dsimp only
   rw[zw (by omega),List.take_append_getElem ar]
   exact zwr s h sp n (j+1) k (by omega) (by omega)
def kh(t:Bool):List aQ->Bool
 | []=>t
 |c::r=>kh (t||decide (c.1=0)) r
theorem Gt(t:Bool):∀l:List aQ,kh t l=(t||decide ((0:Int)∈l.map fun c=>c.1))
 | []=>by simp [kh]
 |c::r=>by
  rw[kh,Gt _ r,List.map_cons,Bool.or_assoc]
  congr 1
  rw[<-Bool.decide_or]
  exact decide_eq_decide.2 ⟨fun h=>h.elim (fun e=>by rw[<-e];exact List.mem_cons_self) (List.mem_cons_of_mem _),fun h=>(List.mem_cons.1 h).imp (fun e=>e.symm) id⟩
theorem zfc(s:bh)(h:dE s)(a:Spec):∀(n j k:Nat) (t:Bool),j+n=s.2.2.2.1.length->n<k->∃t',An k t s.2.2.2.1 (s.2.2.2.1.length:Int) (j:Int) s a=some (match fD a ((s.2.2.2.1.take j).map fun c=>c.1) (s.2.2.2.1.drop j) j with
 |some e=> .inl (e.1,3,e.2,t',s)
 |none=> .inr (kh t (s.2.2.2.1.drop j),s))
 |n,j,0,t,_,hk=>by omega
 |0,j,k+1,t,hj,hk=>by
  unfold An IU
  rw[zF (by omega),zD,List.drop_eq_nil_of_le (by omega)]
  exact⟨t,rfl⟩
 |n+1,j,k+1,t,hj,hk=>by
  have ar:j<s.2.2.2.1.length:=by omega
  have he:=h.iT
  unfold An IU
  rw[zT (by omega),zC,zi ar,aa5 s h a ar,zc,List.drop_eq_getElem_cons ar,fD,kh]
  cases decide (gU a ((s.2.2.2.1.take j).map fun c=>c.1) s.2.2.2.1[j]=0) with
  |false=>exact⟨t,rfl⟩
  |true=>
   rw[Bool.not_true,zD,zC]
   dsimp only
   rw[zw (by omega),Int.toNat_natCast,zvg ar]
   have e:(s.2.2.2.1.take j).map (fun c=>c.1)++ [s.2.2.2.1[j].1]=(s.2.2.2.1.take (j+1)).map fun c=>c.1:=by rw[<-List.take_append_getElem ar,List.map_append];rfl
   rw[e]
   cases t with
   |true=>
    rw[zC,Bool.true_or]
    exact zfc s h a n (j+1) k true (by omega) (by omega)
   |false=>
    rw[zD,Bool.false_or]
    exact zfc s h a n (j+1) k _ (by omega) (by omega)
theorem zl4(s:bh)(h:dE s):p9 s=some (gv s):=by
 have he:=h.yn
 have hc:=h.iT
 unfold p9 L1 gv
 rw[z85 s.1 h.hN,zc]
 cases decide ((gB s.1).1=0) with
 |false=>rfl
 |true=>
  rw[Bool.not_true,zD,zD,uR s.1 39 h.hN,zc]
  cases bq s.1 39 with
  |false=>rfl
  |true=>
   dsimp only
   rw[Bool.not_true,zD,zD]
   have e1:=zwr s h (aO s.1 39) s.2.2.1.length 0 ag (by omega) (by rw[zr];omega)
   rw[List.take_zero,List.drop_zero,show((0:Nat):Int)=0 from rfl] at e1
   rw[e1,zc]
   cases gW s.1 [] s.2.2.1 0 with
   |some e=>rfl
   |none=>
    dsimp only
    rw[Sum.elim_inr]
    unfold L2
    dsimp only
    obtain⟨t',e2⟩:=zfc s h (aO s.1 39) s.2.2.2.1.length 0 ag false (by omega) (by rw[zr];omega)
    rw[List.take_zero,List.drop_zero,show((0:Nat):Int)=0 from rfl,List.map_nil] at e2
    rw[e2,zc]
    cases fD (aO s.1 39) [] s.2.2.2.1 0 with
    |some e=>rfl
    |none=>
     dsimp only
     rw[Sum.elim_inr]
     unfold L3
     rw[Gt,Bool.false_or]
     dsimp only
     cases decide ((0:Int)∈s.2.2.2.1.map fun c=>c.1)<;>rfl
abbrev zyl:=List bh×Int×Unit
abbrev abt:zf:=((0:Int),(0:Int),([]:List Spec),())
abbrev xl:bh:=(abt,QI,([]:List Int),([]:List aQ),())
abbrev Fh:Ty:= .pair (.int .i64) (.pair .str .unit)
abbrev rI:Ty:= .pair abv (.pair Fi (.pair (.sl 0 (.int .i64)) (.pair (.sl 0 Fh) .unit)))
abbrev zvq:Ty:= .pair (.arr 2 rI) (.pair (.int .i64) .unit)
theorem Wn{c:zyl}(h:c.1.length=2):∃p q,c=([p,q],c.2.1,()):=by
 obtain⟨l,n,u⟩:=c
 match l,h with
 | [p,q],_=>exact⟨p,q,rfl⟩
theorem HL:∃k,ag=k+1+1+1:=⟨ag-3,by rw[zr]⟩
def Ci(s:bh):Bool:=decide ((200:Int)<(s.1.2.2.1.length:Int))||(decide ((300:Int)<(s.2.2.1.length:Int))||(decide ((300:Int)<(s.2.2.2.1.length:Int))||s.2.2.2.1.any fun c=>decide ((1200:Int)<(c.2.1.size:Int))))
theorem HP:∀(l:List aQ) (i:Int),bj (fun i (x:aQ) (s:Unit) K=>(bif(decide ((1200:Int)<((x.2.1).size:Int))) then some (Sum.inl true) else K s)) (fun _=>some (Sum.inr ())) l i ()=some (bif l.any (fun c=>decide ((1200:Int)<(c.2.1.size:Int))) then Sum.inl true else Sum.inr ())
 | [],i=>rfl
 |x::r,i=>by
  rw[bj,List.any_cons]
  cases decide ((1200:Int)<(x.2.1.size:Int)) with
  |true=>rfl
  |false=>exact HP r (i+1)
theorem zn6(s:bh)(h:s.2.2.2.1.length<=maxLen):lf s=some (Ci s):=by
 unfold lf Lq Ci
 cases decide ((200:Int)<(s.1.2.2.1.length:Int)) with
 |true=>rfl
 |false=>
  rw[zD,Bool.false_or]
  cases decide ((300:Int)<(s.2.2.1.length:Int)) with
  |true=>rfl
  |false=>
   rw[zD,Bool.false_or]
   cases decide ((300:Int)<(s.2.2.2.1.length:Int)) with
   |true=>rfl
   |false=>
    rw[zD,Bool.false_or]
    have:=cf xq s.2.2.2.1 h (fun i (x:aQ) (s:Unit) K=>(bif(decide ((1200:Int)<((x.2.1).size:Int))) then some (Sum.inl true) else K s)) (fun _=>some (Sum.inr ()))
     (fun k i u=>ID k i s) (fun k i u=>rfl) ()
    dsimp only
    rw[this,HP]
    cases s.2.2.2.1.any (fun c=>decide ((1200:Int)<(c.2.1.size:Int)))<;>rfl
theorem zx1{s:bh}(h:Ci s=false):dE s/\s.1.2.2.1.length<=200/\s.2.2.1.length<=300/\s.2.2.2.1.length<=300/\∀c∈s.2.2.2.1,c.2.1.size<=1200:=by
 unfold Ci at h
 simp only[Bool.or_eq_false_iff,decide_eq_false_iff_not] at h
 obtain⟨h1,h2,h3,h4⟩:=h
 have ht:∀c∈s.2.2.2.1,c.2.1.size<=1200:=fun c hc=>by
  by_cases e:(1200:Int)<(c.2.1.size:Int)
  ·rw[List.any_eq_true.2 ⟨c,hc,zT e⟩] at h4;cases h4
  ·omega
 exact⟨⟨by rw[zj];omega,by omega,by omega,fun c hc=>by have:=ht c hc;omega⟩,by omega,by omega,by omega,ht⟩
structure fC(p q:bh):Prop where
 sp:dE p
 sq:dE q
 pm:ea p.2.1
 qm:ea q.2.1
 RR:p.1.2.2.1.length<=200
 RU:q.1.2.2.1.length<=200
 pe:p.2.2.1.length<=300
 qe:q.2.2.1.length<=300
 pml:p.2.1.2.1.length<=300
 qml:q.2.1.2.1.length<=300
 RS:∀c∈p.2.2.2.1,c.2.1.size<=1200
 RV:∀c∈q.2.2.2.1,c.2.1.size<=1200
theorem zku{m:Map}(h:xM m=false):m.2.1.length<=300:=by
 unfold xM at h
 simp only[Bool.or_eq_false_iff,decide_eq_false_iff_not] at h
 omega
theorem Tq{p q:bh}{n:Int}(h:Wf zvq ([p,q],n,())):∃g,oq ([p,q],n,())=some g/\(g=false->fC p q):=by
 have hp:Wf rI p:=h.1.2 p (by simp)
 have hq:Wf rI q:=h.1.2 q (by simp)
 have w0:∀{R:Type} (x:Option R),zd 0 2 x=x:=fun x=>zm (by omega) (by omega)
 have w1:∀{R:Type} (x:Option R),zd 1 2 x=x:=fun x=>zm (by omega) (by omega)
 unfold oq Lr
 simp only[w0,w1]
 show∃g,((lf p).bind fun r1=>(bif r1 then some true else((lf q).bind fun r2=>(bif r2 then some true else((kj p.2.1).bind fun r3=>(bif r3 then some true else((kj q.2.1).bind fun r4=>some r4)))))))=some g/\_
 rw[zn6 p hp.2.2.2.1.1,zc]
 cases h1:Ci p with
 |true=>exact⟨true,rfl,fun h=>by cases h⟩
 |false=>
  rw[zD,zn6 q hq.2.2.2.1.1,zc]
  cases h2:Ci q with
  |true=>exact⟨true,rfl,fun h=>by cases h⟩
  |false=>
   rw[zD,Gr hp.2.1,zc]
   cases h3:xM p.2.1 with
   |true=>exact⟨true,rfl,fun h=>by cases h⟩
   |false=>
    rw[zD,Gr hq.2.1,zc]
    refine⟨_,rfl,fun h4=> ?_⟩
    obtain⟨a1,a2,a3,a4,a5⟩:=zx1 h1
    obtain⟨b1,b2,b3,b4,b5⟩:=zx1 h2
    exact⟨a1,b1,zx0 h3,zx0 h4,a2,b2,a3,b3,zku h3,zku h4,a5,b5⟩
def mI(p q:bh)(n:Int):Int×Int×Int:=
 bif decide (n<1) then(5,2,0) else bif decide (65535<n) then(5,2,0)
 else bif !decide ((gv p).1=0) then((gv p).1,0,1) else bif !decide ((dw p.2.1 p.1 q.1).1=0) then((dw p.2.1 p.1 q.1).1,0,2)
 else bif !decide ((gv q).1=0) then((gv q).1,1,1) else bif !decide ((dw q.2.1 q.1 p.1).1=0) then((dw q.2.1 q.1 p.1).1,1,2) else(0,0,0)
theorem Bf{R:Type}(x:Option R):zd 0 2 x=x:=zm (by omega) (by omega)
theorem Bg{R:Type}(x:Option R):zd 1 2 x=x:=zm (by omega) (by omega)
theorem Ks:zW zI ((1:Int)-(0:Int))=1:=by decide
theorem Kt:zW zI ((1:Int)-(1:Int))=0:=by decide
theorem x01:zW zI ((0:Int)+(1:Int))=1:=by decide
theorem x12:zW zI ((1:Int)+(1:Int))=2:=by decide
theorem gp(p q:bh):List.getD [p,q] (0:Int).toNat xl=p:=rfl
theorem gq(p q:bh):List.getD [p,q] (1:Int).toNat xl=q:=rfl
theorem zyh(p q:bh)(n:Int)(h:fC p q):oE ([p,q],n,())=some (mI p q n):=by
 obtain⟨k,hk⟩:=HL
 unfold oE Mc mI
 dsimp only
 cases decide (n<1) with
 |true=>rfl
 |false=>
  cases decide (65535<n) with
  |true=>rfl
  |false=>
   rw[zD,zD,zD,zD,hk]
   unfold Ao BE
   simp only[Bf,Bg,Ks,Kt,x01,x12,gp,gq]
   rw[zT (by decide:(0:Int)<2),zC,zl4 p h.sp,zc]
   cases decide ((gv p).1=0) with
   |false=>rfl
   |true=>
    rw[Bool.not_true,zD,zD,z71 p.2.1 p.1 q.1 h.pm h.sp.hN h.sq.hN,zc]
    cases decide ((dw p.2.1 p.1 q.1).1=0) with
    |false=>rfl
    |true=>
     rw[Bool.not_true,zD,zD]
     unfold Ao BE
     simp only[Bf,Bg,Ks,Kt,x01,x12,gp,gq]
     rw[zT (by decide:(1:Int)<2),zC,zl4 q h.sq,zc]
     cases decide ((gv q).1=0) with
     |false=>rfl
     |true=>
      rw[Bool.not_true,zD,zD,z71 q.2.1 q.1 p.1 h.qm h.sq.hN h.sp.hN,zc]
      cases decide ((dw q.2.1 q.1 p.1).1=0) with
      |false=>rfl
      |true=>
       rw[Bool.not_true,zD,zD]
       unfold Ao BE
       rw[zF (by decide:¬(2:Int)<2),zD]
       rfl
theorem J1(p q:bh):List.getD [p,q] (0:Int).toNat ((((0:Int),(0:Int),([]:List Spec),()),(([]:List bG),([]:List aS),()),([]:List Int),([]:List aQ),()):bh)=p:=rfl
theorem J2(p q:bh):List.getD [p,q] (1:Int).toNat ((((0:Int),(0:Int),([]:List Spec),()),(([]:List bG),([]:List aS),()),([]:List Int),([]:List aQ),()):bh)=q:=rfl
theorem w0{R:Type}(x:Option R):zd 0 2 x=x:=zm (by omega) (by omega)
theorem w1{R:Type}(x:Option R):zd 1 2 x=x:=zm (by omega) (by omega)
def cI(m:ByteArray):ByteArray:=strOf [ze m 0,ze m 1,ze m 2+1,ze m 3]
theorem abf{m:ByteArray}(h:m.size=4):bl m=[ze m 0,ze m 1,ze m 2,ze m 3]:=by
 have hl:(bl m).length=4:=by rw[zh];exact h
 have e:=fun i=>kW m i
 match hb:bl m,hl with
 | [a,b,c,d],_=>rw[e 0,e 1,e 2,e 3,hb];rfl
theorem KQ{m:ByteArray}(h:cT m=true):zt m=true/\(ze m 2=48\/ze m 2=50):=by
 unfold cT at h
 rw[Bool.and_eq_true,Bool.or_eq_true,decide_eq_true_eq,decide_eq_true_eq] at h
 exact h
theorem z156{m:ByteArray}(h:cT m=true):bl (cI m)=[ze m 0,ze m 1,ze m 2+1,ze m 3]/\aX [ze m 0,ze m 1,ze m 2+1,ze m 3]=true:=by
 obtain⟨hr,h2⟩:=KQ h
 have d0:=sK hr 0 (by decide)
 have d1:=sK hr 1 (by decide)
 have d3:=sK hr 3 (by decide)
 have hd:aX [ze m 0,ze m 1,ze m 2+1,ze m 3]=true:=pg.2 ⟨sw.2 d0,pg.2 ⟨sw.2 d1,pg.2 ⟨sw.2 (by omega),pg.2 ⟨sw.2 d3,rfl⟩⟩⟩⟩
 exact⟨pj (zwl hd),hd⟩
theorem abr{m:ByteArray}(h:cT m=true):zt (cI m)=true/\c8 (cI m)=c8 m/\cT (cI m)=false:=by
 obtain⟨hr,h2⟩:=KQ h
 obtain⟨hb,hd⟩:=z156 h
 have hs:(cI m).size=4:=by rw[<-zh,hb];rfl
 have eL:zt (cI m)=true:=oc.2 ⟨hs,by rw[hb];exact hd⟩
 have e0:ze (cI m) 0=ze m 0:=by rw[kW (cI m),hb];rfl
 have e2:ze (cI m) 2=ze m 2+1:=by rw[kW (cI m),hb];rfl
 refine⟨eL,?_,?_⟩
 ·unfold c8
  rw[hr,eL,e0]
 ·unfold cT
  rw[eL,e2,zF (by omega),zF (by omega)];rfl
theorem SE(m:ByteArray)(h:m.size<=maxLen):p6 m=some (if cT m=true then(cI m,true) else(bs [],false)):=by
 unfold p6 LO
 rw[zbh m h,zc]
 cases hr:cT m with
 |false=>rfl
 |true=>
  obtain⟨fU,h2⟩:=KQ hr
  have h4:=(oc.1 fU).1
  have hb:=abf h4
  have z1:(m.extract 0 2).size=2:=by rw[ByteArray.size_extract];omega
  have z3:(m.extract 3 m.size).size=1:=by rw[ByteArray.size_extract];omega
  have zs:∀x:Int,(strOf [x]).size=1:=fun x=>by rw[lX];rfl
  have hw:zW zU (ze m 2+1)=ze m 2+1:=by
   rcases h2 with e|e<;>rw[e]<;>decide
  rw[Bool.not_true,zD,show((2:Int)).toNat=2 from rfl,show((3:Int)).toNat=3 from rfl,zT (by omega),zC,show(2:Int)=((2:Nat):Int) from rfl,zi (by omega),hw,zT (by rw[z1,zs];decide),zC,zT (by omega),zC,zT (by rw[zu,z1,zs,z3];decide),zC,if_pos rfl]
  congr 2
  apply xK
  rw[uO,uO,z28,z28,h4,hb,(z156 hr).1]
  have hx:zn (ze m 2+1):=by unfold zn;omega
  rw[pj (xs:=[ze m 2+1]) (by simpa using hx)]
  rfl
def dG(l:List aQ)(no:Int):Option aQ:=l.find? fun v=>decide (v.1=no)
theorem FQ(no:Int):∀(l:List aQ) (i:Int),bj (fun i (x:aQ) (s:Unit) K=>bif decide (x.1=no) then some (Sum.inl (x.2.1,true)) else K s) (fun _=>some (Sum.inr ())) l i ()=some (match dG l no with
 |some v=> .inl (v.2.1,true)
 |none=>(.inr ():Sum iO Unit))
 | [],i=>rfl
 |x::r,i=>by
  rw[bj]
  unfold dG
  rw[List.find?_cons]
  cases hx:decide (x.1=no) with
  |true=>rfl
  |false=>exact FQ no r (i+1)
theorem Zz(m:bd)(no:Int)(h:m.2.1.length<=1000000):mo m no=some (match dG m.2.1 no with
 |some v=>(v.2.1,true)
 |none=>(bs [],false)):=by
 unfold mo LH
 dsimp only
 have:=cf kI m.2.1 (by rw[zj];omega) (fun i (x:aQ) (s:Unit) K=>bif decide (x.1=no) then some (Sum.inl (x.2.1,true)) else K s) (fun _=>some (Sum.inr ())) (fun k i s=>II k no m.2.1 (m.2.1.length:Int) i) (fun k i s=>rfl) ()
 rw[this,FQ]
 cases dG m.2.1 no<;>rfl
def gd(s:bh)(e:Int):ByteArray:=match dG s.2.2.2.1 e with
 |some c=>c.2.1
 |none=>match dG s.2.2.2.1 0 with
  |some c=>c.2.1
  |none=>bs []
theorem zwe(s:bh)(e:Int)(q:List Int)(n i0:Int):∀(l:List aQ) (i:Int),bj (fun i (x:aQ) (u:Unit) K=>bif decide (x.1=e) then some (Sum.inl (x.2.1,q,n,i0,s)) else K u) (fun _=>some (Sum.inr (q,n,i0,s))) l i ()=some (match dG l e with
 |some v=> .inl (v.2.1,q,n,i0,s)
 |none=>(.inr (q,n,i0,s):Sum (ByteArray×List Int×Int×Int×bh) (List Int×Int×Int×bh)))
 | [],i=>rfl
 |x::r,i=>by
  rw[bj]
  unfold dG
  rw[List.find?_cons]
  cases hx:decide (x.1=e) with
  |true=>rfl
  |false=>exact zwe s e q n i0 r (i+1)
theorem aa6(s:bh)(hs:s.2.2.2.1.length<=1000000)(e:Int)(q:List Int)(n i0:Int):BD ag e q n i0 s.2.2.2.1 (s.2.2.2.1.length:Int) 0 s=some (match dG s.2.2.2.1 e with
 |some v=> .inl (v.2.1,q,n,i0,s)
 |none=>(.inr (q,n,i0,s):Sum (ByteArray×List Int×Int×Int×bh) (List Int×Int×Int×bh))):=by
 rw[<-zwe s e q n i0 s.2.2.2.1 0]
 exact cf kI s.2.2.2.1 (by rw[zj];omega) (fun i (x:aQ) (u:Unit) K=>bif decide (x.1=e) then some (Sum.inl (x.2.1,q,n,i0,s)) else K u) (fun _=>some (Sum.inr (q,n,i0,s))) (fun k i u=>BD k e q n i0 s.2.2.2.1 (s.2.2.2.1.length:Int) i s) (fun k i u=>rfl) ()
theorem Zu(s:bh)(hs:s.2.2.2.1.length<=1000000)(e:Int):qa s e=some (gd s e):=by
 obtain⟨k,hk⟩:=HL
 have h1:=aa6 s hs
 unfold qa L6 gd
 dsimp only
 rw[show(List.length [e,(0:Int)]:Int)=2 from rfl]
 have step:∀(K i:Nat) (x:Int),i<2->List.getD [e,(0:Int)] i 0=x->xD (K+1) [e,0] 2 (i:Int) s=match dG s.2.2.2.1 x with
  |some v=>some (.inr v.2.1)
  |none=>xD K [e,0] 2 ((i+1:Nat):Int) s:=by
  intro K i x hi hx
  conv=>lhs;unfold xD IV
  rw[zT (by omega),zC,show(List.length [e,(0:Int)])=2 from rfl,zi hi,Int.toNat_natCast,hx]
  dsimp only
  rw[h1,zc]
  cases dG s.2.2.2.1 x with
  |some v=>rfl
  |none=>
   dsimp only
   rw[Sum.elim_inr]
   unfold L7
   dsimp only
   rw[zw (by omega)]
 have s0:=step (k+1+1) 0 e (by decide) rfl
 have s1:=step (k+1) 1 0 (by decide) rfl
 rw[show((0:Nat):Int)=0 from rfl] at s0
 rw[hk,s0]
 cases dG s.2.2.2.1 e with
 |some v=>rfl
 |none=>
  dsimp only
  rw[s1]
  cases dG s.2.2.2.1 0 with
  |some v=>rfl
  |none=>
   dsimp only
   unfold xD IV
   rw[zF (by decide)];rfl
def eg(l:List aQ):List Int->bd->bd
 | [],o=>o
 |no::r,o=>eg l r (match dG l no with
  |some v=>dn o no v.2.1
  |none=>o)
def rX(s:bh)(m:bd)(e:Int):bd:=dn (eg m.2.1 s.2.2.1 (cI m.1,[],())) 39 (gd s e)
def zR(s:bh)(m:bd)(f:bu):bd×Bool:=if cT m.1=true then(rX s m f.1,true) else(cz,false)
theorem zn3(m:bd)(no:Int)(t:ByteArray):(dn m no t).2.1.length<=m.2.1.length+1:=KR m no t
theorem zfh(l:List aQ):∀(e:List Int) (o:bd),(eg l e o).2.1.length<=o.2.1.length+e.length
 | [],o=>Nat.le_refl _
 |no::r,o=>by
  rw[eg,List.length_cons]
  have h:=zfh l r (match dG l no with
   |some v=>dn o no v.2.1
   |none=>o)
  cases hx:dG l no with
  |some v=>
   rw[hx] at h
   have:=zn3 o no v.2.1
   dsimp only at h⊢
   omega
  |none=>rw[hx] at h;dsimp only at h⊢;omega
theorem zfj{ρ:Type}(m:bd)(hm:m.2.1.length<=1000000)(fin:bd->Option ρ):∀(l:List Int) (i:Int) (o:bd),o.2.1.length+l.length<=1000000->
 bj (fun i (x:Int) (o:bd) K=>(mo m x).bind fun r2=>(bif r2.2 then((fX o x r2.1).bind fun r3=>K r3) else K o)) fin l i o=fin (eg m.2.1 l o)
 | [],i,o,_=>rfl
 |x::r,i,o,h=>by
  rw[List.length_cons] at h
  rw[bj,Zz m x hm,zc,eg]
  cases hx:dG m.2.1 x with
  |some v=>
   have:=zn3 o x v.2.1
   dsimp only
   rw[zC,KT o x _ (by omega),zc]
   exact zfj m hm fin r (i+1) _ (by omega)
  |none=>exact zfj m hm fin r (i+1) o (by omega)
theorem Wy(s:bh)(m:bd)(f:bu)(hs:dE s)(he:s.2.2.1.length<=300)(hm:dc m):p8 s m f=some (zR s m f):=by
 have yK:=hm.len
 unfold p8 LX zR
 rw[SE m.1 (by rw[zj];exact hm.n4),zc]
 cases hr:cT m.1 with
 |false=>rfl
 |true=>
  rw[if_pos rfl,if_pos rfl,Bool.not_true,zD]
  dsimp only
  have hl:=cf (0:Int) s.2.2.1 (by rw[zj];omega) (fun i (x:Int) (o:bd) K=>(mo m x).bind fun r2=>(bif r2.2 then((fX o x r2.1).bind fun r3=>K r3) else K o)) (fun o=>some (s,f,cz,o)) (fun k i o=>IP k s.2.2.1 (s.2.2.1.length:Int) i s m f cz o) (fun k i o=>rfl) (cI m.1,[],())
  have hb:=zfh m.2.1 s.2.2.1 (cI m.1,[],())
  rw[hl,zfj m (by omega) _ _ _ _ (by simp;omega),zc]
  unfold LY
  dsimp only at hb⊢
  rw[Zu s hs.iT,zc,KT _ _ _ (by rw[List.length_nil] at hb;omega),zc]
  rfl
theorem zqc{a:Spec}:∀{l:List aQ} {prev:List Int} {i:Int},fD a prev l i=none->∀c∈l,aY a c.2.1=0
 | [],_,_,_,c,hc=>by cases hc
 |x::r,prev,i,h,c,pE=>by
  rw[fD] at h
  by_cases hc:gU a prev x=0
  ·rw[zT hc,zC] at h
   rcases List.mem_cons.1 pE with rfl|pE
   ·unfold gU at hc
    cases h1:decide (c.1<0) with
    |true=>rw[h1] at hc;cases hc
    |false=>
     rw[h1,zD] at hc
     cases h2:decide (16<c.1) with
     |true=>rw[h2] at hc;cases hc
     |false=>
      rw[h2,zD] at hc
      cases h3:decide (c.1∈prev) with
      |true=>rw[h3] at hc;cases hc
      |false=>rw[h3,zD] at hc;exact hc
   ·exact zqc h c pE
  ·rw[zF hc] at h;cases h
structure qw(s:bh):Prop where
 hN:(gB s.1).1=0
 act:bq s.1 39=true
 iT:∀c∈s.2.2.2.1,aY (aO s.1 39) c.2.1=0
 zero:(0:Int)∈s.2.2.2.1.map fun c=>c.1
theorem Gg{s:bh}(h:(gv s).1=0):qw s:=by
 unfold gv at h
 by_cases h1:(gB s.1).1=0
 case neg=>rw[zF h1] at h;cases h
 rw[zT h1,Bool.not_true,zD] at h
 cases h2:bq s.1 39 with
 |false=>rw[h2] at h;cases h
 |true=>
  rw[h2,Bool.not_true,zD] at h
  have ne:∀{l:List Int} {prev:List Int} {i:Int} {e:Int×Int},gW s.1 prev l i=some e->e.1≠0:=by
   intro l
   induction l with
   |nil=>intro _ _ _ h;cases h
   |cons x r ih=>
    intro prev i e h
    rw[gW] at h
    by_cases hc:jY s.1 prev x=0
    ·rw[zT hc,zC] at h;exact ih h
    ·rw[zF hc,zD] at h;cases h;exact hc
  have nc:∀{l:List aQ} {prev:List Int} {i:Int} {e:Int×Int},fD (aO s.1 39) prev l i=some e->e.1≠0:=by
   intro l
   induction l with
   |nil=>intro _ _ _ h;cases h
   |cons x r ih=>
    intro prev i e h
    rw[fD] at h
    by_cases hc:gU (aO s.1 39) prev x=0
    ·rw[zT hc,zC] at h;exact ih h
    ·rw[zF hc,zD] at h;cases h;exact hc
  cases h3:gW s.1 [] s.2.2.1 0 with
  |some e=>rw[h3] at h;exact absurd h (ne h3)
  |none=>
   rw[h3] at h
   dsimp only at h
   cases h4:fD (aO s.1 39) [] s.2.2.2.1 0 with
   |some e=>rw[h4] at h;exact absurd h (nc h4)
   |none=>
    rw[h4] at h
    dsimp only at h
    by_cases h5:(0:Int)∈s.2.2.2.1.map fun c=>c.1
    ·exact⟨h1,h2,zqc h4,h5⟩
    ·rw[zF h5] at h;cases h
theorem Yp{s:bh}(h:qw s)(e:Int):aY (aO s.1 39) (gd s e)=0:=by
 unfold gd
 cases h1:dG s.2.2.2.1 e with
 |some c=>exact h.iT c (List.mem_of_find?_eq_some h1)
 |none=>
  cases h2:dG s.2.2.2.1 0 with
  |some c=>exact h.iT c (List.mem_of_find?_eq_some h2)
  |none=>
   obtain⟨c,hc,h0⟩:=List.mem_map.1 h.zero
   have:=List.find?_eq_none.1 h2 c hc
   exact absurd (zT h0) this
theorem zwq(l:List aQ):∀(e:List Int) (o:bd) (v:aQ),v∈(eg l e o).2.1->v∈o.2.1\/v∈l
 | [],o,v,h=> .inl h
 |no::r,o,v,h=>by
  rw[eg] at h
  rcases zwq l r _ v h with h|h
  ·cases hx:dG l no with
   |none=>rw[hx] at h;exact .inl h
   |some w=>
    rw[hx] at h
    rcases(KS o no w.2.1 v).1 h with e|⟨h,_⟩
    ·have hw:=List.find?_some hx
     have hw:w.1=no:=by simpa using hw
     right
     rw[e,<-hw]
     exact List.mem_of_find?_eq_some hx
    ·exact .inl h
  ·exact .inr h
theorem zfi(l:List aQ):∀(e:List Int) (o:bd),iM o.2.1->iM (eg l e o).2.1/\(eg l e o).1=o.1
 | [],o,h=>⟨h,rfl⟩
 |no::r,o,h=>by
  rw[eg]
  cases hx:dG l no with
  |none=>exact zfi l r o h
  |some w=>
   obtain⟨h1,h2⟩:=zfi l r (dn o no w.2.1) (zgg h no w.2.1)
   exact⟨h1,h2⟩
structure Part(s:zf)(m:bd):Prop where
 head:zt m.1=true->c8 m.1=s.2.1
 n4:m.1.size<=1000
 len:m.2.1.length<=200
 gJ:∀v∈m.2.1,bq s v.1=true/\aY (aO s v.1) v.2.1=0/\v.2.1.size<=999
theorem Part.ok{s:zf}{m:bd}(h:Part s m):dc m:=⟨by have:=h.n4;omega,by have:=h.len;omega,fun v hv=>by have:=(h.gJ v hv).2.2;omega⟩
theorem FE{s:bh}(hk:qw s)(ho:dE s)(he:s.2.2.1.length<=300){m:bd}(hm:Part s.1 m)(e:Int)(hr:cT m.1=true):fu s.1 (rX s m e)/\eM (rX s m e)/\cT (rX s m e).1=false:=by
 obtain⟨r1,r2,r3⟩:=abr hr
 obtain⟨b1,b2⟩:=zfi m.2.1 s.2.2.1 (cI m.1,[],()) List.Pairwise.nil
 have um:(rX s m e).1=cI m.1:=b2
 have ok:=(uM s.1).1 hk.hN
 have hc:=Yp hk e
 have du:(gd s e).size<=1099511627776:=by
  unfold gd
  split
  ·rename_i c h;exact ho.me c (List.mem_of_find?_eq_some h)
  ·split
   ·rename_i c h;exact ho.me c (List.mem_of_find?_eq_some h)
   ·exact Nat.zero_le _
 have hf:∀v∈(rX s m e).2.1,bq s.1 v.1=true/\aY (aO s.1 v.1) v.2.1=0/\v.2.1.size<=999:=fun v hv=>by
  rcases(KS _ _ _ v).1 hv with rfl|⟨hv,_⟩
  ·obtain⟨v1,v2,v3,_,_⟩:=(Aj _ _ du).1 hc
   have:=AD v1
   exact⟨hk.act,hc,by dsimp only;omega⟩
  ·rcases zwq _ _ _ v hv with hv|hv
   ·cases hv
   ·exact hm.gJ v hv
 have yQ:iM (rX s m e).2.1:=zgg b1 39 (gd s e)
 refine⟨⟨hk.hN,by rw[um];exact r1,by rw[um,r2];exact hm.head (KQ hr).1,xt.2 ⟨fun v hv=>⟨(hf v hv).1,(hf v hv).2.1⟩,yQ,fun v hv=>by have:=Hd ok (hf v hv).1;omega⟩⟩,⟨by rw[um];have:=(oc.1 r1).1;omega,?_,fun v hv=>by have:=(hf v hv).2.2;omega⟩,by rw[um];exact r3⟩
 have h1:=zfh m.2.1 s.2.2.1 (cI m.1,[],())
 have h2:=zn3 (eg m.2.1 s.2.2.1 (cI m.1,[],())) 39 (gd s e)
 unfold rX
 dsimp only[List.length_nil] at h1
 omega
theorem zwk(s:zf)(b:ByteArray)(hb:b.size<=1099511627776):∀(r:List Int) (a:Nat) (o:List aQ),(∀v∈o,bq s v.1=true/\aY (aO s v.1) v.2.1=0/\v.2.1.size<=999)->(∀v∈(eG s b r a o).1,bq s v.1=true/\aY (aO s v.1) v.2.1=0/\v.2.1.size<=999)/\(eG s b r a o).1.length<=o.length+r.length
 | [],a,o,h=>⟨h,Nat.le_refl _⟩
 |no::r,a,o,h=>by
  rw[eG]
  split
  ·exact⟨h,Nat.le_add_right _ _⟩
  ·rename_i hf
   have hf:bq s no=true:=by cases hh:bq s no with
    |true=>rfl
    |false=>exact absurd hh hf
   split
   ·exact⟨h,Nat.le_add_right _ _⟩
   ·rename_i hz
    generalize hg:kP s.1 (aO s no) b (a:Int)=g at hz⊢
    obtain⟨t,z,e⟩:=g
    dsimp only at hz⊢
    have he:e=0:=Classical.byContradiction fun hn=>hz hn
    subst he
    obtain⟨c1,c2,c3,c4,c5,c6⟩:=zqb hb hg
    have h2:∀v∈o++ [((no,t,()):aQ)],bq s v.1=true/\aY (aO s v.1) v.2.1=0/\v.2.1.size<=999:=fun v hv=>by
     rcases List.mem_append.1 hv with hv|hv
     ·exact h v hv
     ·rw[List.mem_singleton.1 hv];exact⟨hf,c2,c5⟩
    obtain⟨i1,i2⟩:=zwk s b hb r z.toNat _ h2
    rw[List.length_append,List.length_singleton] at i2
    exact⟨i1,by rw[List.length_cons];omega⟩
theorem xf(s:zf):Part s cz:=⟨fun h=>(by cases h),Nat.zero_le _,Nat.zero_le _,fun v hv=>(by cases hv)⟩
theorem FI(s:zf)(b:ByteArray)(hb:b.size<=1099511627776):Part s (gI s b).1:=by
 unfold gI
 split
 ·exact xf s
 cases ht:jK s b with
 |inl e=>exact xf s
 |inr q=>
  unfold jK at ht
  split at ht
  ·cases ht
  split at ht
  case isFalse=>cases ht
  rename_i hr
  injection ht with ht
  subst ht
  have h4:=(oc.1 hr.1).1
  show Part s (lz s b (dZ s.1 b) _).1
  unfold lz
  split
  ·exact⟨fun _=>hr.2,by dsimp only;omega,Nat.zero_le _,fun v hv=>by cases hv⟩
  ·obtain⟨p1,p2⟩:=zwk s b hb (elems (aW s.1 b (dH s.1)).1 (aW s.1 b (dH s.1)).2.1) (aW s.1 b (dH s.1)).2.2.1.toNat [] (fun v hv=>by cases hv)
   have:=Iq (aW s.1 b (dH s.1)).1 (aW s.1 b (dH s.1)).2.1
   rw[List.length_nil] at p2
   exact⟨fun _=>hr.2,by dsimp only;omega,by dsimp only;omega,p1⟩
theorem aaT:xZ=some true:=by kernel_rfl
def jB(p:bh)(n:Int)(m:bd)(f:bu):Int×ByteArray:=
 if cT m.1=true then(if n<((cQ p.1 (rX p m f.1)).size:Int) then(3,bs []) else(2,cQ p.1 (rX p m f.1))) else(3,bs [])
def uB(p q:bh)(n:Int)(m:bd)(t:bd×bu):Int×ByteArray:=
 if¬t.2.1=0 then jB p n m t.2 else if n<((cQ q.1 t.1).size:Int) then jB p n m (5,129,()) else(1,cQ q.1 t.1)
def uA(p q:bh)(n:Int)(d:bd×bu):Int×ByteArray:=if¬d.2.1=0 then jB p n d.1 d.2 else uB p q n d.1 (pw p.2.1 p.1 q.1 d.1)
def iw(p q:bh)(n:Int)(b:ByteArray):Int×ByteArray:=uA p q n (gI p.1 b)
structure mi(p q:bh)(n:Int):Prop where
 n1:1<=n
 n2:n<=65535
 rp:(gv p).1=0
 rq:(gv q).1=0
 mp:(dw p.2.1 p.1 q.1).1=0
 mq:(dw q.2.1 q.1 p.1).1=0
theorem mi.symm{p q:bh}{n:Int}(h:mi p q n):mi q p n:=⟨h.n1,h.n2,h.rq,h.rp,h.mq,h.mp⟩
theorem fC.symm{p q:bh}(h:fC p q):fC q p:=⟨h.sq,h.sp,h.qm,h.pm,h.RU,h.RR,h.qe,h.pe,h.qml,h.pml,h.RV,h.RS⟩
theorem zmn{p q:bh}{n:Int}:(mI p q n).1=0↔mi p q n:=by
 unfold mI
 by_cases h1:n<1
 ·rw[zT h1];exact⟨fun h=>(by cases h),fun h=>by have:=h.n1;omega⟩
 by_cases h2:65535<n
 ·rw[zF h1,zT h2];exact⟨fun h=>(by cases h),fun h=>by have:=h.n2;omega⟩
 rw[zF h1,zF h2,zD,zD]
 by_cases h3:(gv p).1=0
 case neg=>rw[zF h3];exact⟨fun h=>absurd h h3,fun h=>absurd h.rp h3⟩
 rw[zT h3,Bool.not_true,zD]
 by_cases h4:(dw p.2.1 p.1 q.1).1=0
 case neg=>rw[zF h4];exact⟨fun h=>absurd h h4,fun h=>absurd h.mp h4⟩
 rw[zT h4,Bool.not_true,zD]
 by_cases h5:(gv q).1=0
 case neg=>rw[zF h5];exact⟨fun h=>absurd h h5,fun h=>absurd h.rq h5⟩
 rw[zT h5,Bool.not_true,zD]
 by_cases h6:(dw q.2.1 q.1 p.1).1=0
 case neg=>rw[zF h6];exact⟨fun h=>absurd h h6,fun h=>absurd h.mq h6⟩
 rw[zT h6]
 exact⟨fun _=>⟨by omega,by omega,h3,h5,h4,h6⟩,fun _=>rfl⟩
theorem YC{s:zf}{m:bd}(h:fu s m):2<=(cQ s m).size:=by
 have ho:=(uM s).1 h.hN
 have:=(zxz (s:=s) ho.1 (m:=m.1) (y:=bs []) h.right).2
 have hz:2<=dH s.1:=by unfold dH;split<;>omega
 unfold cQ
 rw[zu,zu]
 omega
theorem Hr{s:zf}{m:bd}(h:fu s m):n8 s m=(cQ s m,fB):=by
 unfold n8
 rw[if_pos (Iu.2 h)]
theorem Wj{p q:bh}(h:fC p q){m:bd}(hm:dc m)(ht:(pw p.2.1 p.1 q.1 m).2.1=0):fu q.1 (pw p.2.1 p.1 q.1 m).1/\dc (pw p.2.1 p.1 q.1 m).1:=by
 rcases SX p.2.1 p.1 q.1 m with⟨f,hf,e⟩|⟨ys,hd,e⟩
 ·rw[e] at ht;exact absurd ht hf
 ·rw[e];exact⟨hd.out h.pm hm,hd.ok h.pm hm⟩
section
variable {p q:bh} {n:Int} (h:fC p q) (h0:mi p q n)
include h h0
theorem zvk{m:bd}(hm:Part p.1 m)(f:bu)(cl:List bh):jA m f p (cl,n,())=some (jB p n m f):=by
 unfold jA Me jB
 rw[Wy p m f h.sp h.pe hm.ok,zc]
 unfold zR
 cases hr:cT m.1 with
 |false=>rfl
 |true=>
  obtain⟨b1,b2,_⟩:=FE (Gg h0.rp) h.sp h.pe hm f.1 hr
  have hp:=YC b1
  rw[if_pos rfl,if_pos rfl]
  dsimp only
  rw[Bool.not_true,zD,zvt p.1 _ h.sp.hN b2.ok,zc,Hr b1]
  dsimp only
  rw[zF (fun e=>by rw[e] at hp;exact absurd hp (by decide)),zD]
  by_cases hn:n<((cQ p.1 (rX p m f.1)).size:Int)
  ·rw[zT hn,if_pos hn];rfl
  ·rw[zF hn,if_neg hn];rfl
theorem HY(b:ByteArray)(hb:b.size<=1099511627776)(cl:List bh):((oF p.1 b).bind fun r2=>(bif(!(decide (r2.2.1=(0:Int)))) then((jA r2.1 r2.2 p (cl,n,())).bind fun r3=>some (r3.1,r3.2)) else((oH p.2.1 p.1 q.1 r2.1).bind fun r4=>(bif(!(decide (r4.2.1=(0:Int)))) then((jA r2.1 r4.2 p (cl,n,())).bind fun r5=>some (r5.1,r5.2)) else((mA q.1 r4.1).bind fun r6=>(bif(decide (n<((r6.1).size:Int))) then((jA r2.1 ((5:Int),(129:Int),()) p (cl,n,())).bind fun r7=>some (r7.1,r7.2)) else some ((1:Int),r6.1)))))))=some (iw p q n b):=by
 have oY:=FI p.1 b hb
 have io:=oY.ok
 rw[TP p.1 b h.sp.hN hb,zc]
 unfold iw uA
 by_cases hd:(gI p.1 b).2.1=0
 case neg=>rw[zF hd,Bool.not_false,zC,if_pos hd,zvk h h0 oY,zc]
 rw[zT hd,Bool.not_true,zD,if_neg (fun e=>e hd),Se p.2.1 p.1 q.1 _ h.pm (by have:=h.pml;omega) io (by have:=oY.len;omega) h.sp.hN h.sq.hN,zc]
 unfold uB
 by_cases ht:(pw p.2.1 p.1 q.1 (gI p.1 b).1).2.1=0
 case neg=>rw[zF ht,Bool.not_false,zC,if_pos ht,zvk h h0 oY,zc]
 obtain⟨t1,t2⟩:=Wj h io ht
 rw[zT ht,Bool.not_true,zD,if_neg (fun e=>e ht),zvt q.1 _ h.sq.hN t2,zc,Hr t1]
 dsimp only
 by_cases hn:n<((cQ q.1 (pw p.2.1 p.1 q.1 (gI p.1 b).1).1).size:Int)
 ·rw[zT hn,zC,if_pos hn,zvk h h0 oY,zc]
 ·rw[zF hn,zD,if_neg hn]
end
def jI(p q:bh)(n link:Int)(b:ByteArray):Int×ByteArray:=
 if¬(mI p q n).1=0 then(0,bs []) else if link=0 then iw p q n b else if link=1 then iw q p n b else(0,bs [])
theorem zn8(p q:bh)(n link:Int)(b:ByteArray)(h:fC p q)(hb:b.size<=1099511627776):jz ([p,q],n,()) link b=some (jI p q n link b):=by
 unfold jz Md jI
 rw[zyh p q n h,zc]
 by_cases hc:(mI p q n).1=0
 case neg=>rw[zF hc,if_pos hc];rfl
 have h0:=zmn.1 hc
 rw[zT hc,Bool.not_true,zD,if_neg (fun e=>e hc)]
 by_cases l0:link=0
 ·subst l0
  rw[if_pos rfl,zF (by decide),zD,zF (by decide),zD]
  simp only[Bf,Bg,Ks,J1,J2]
  exact HY h h0 b hb [p,q]
 ·rw[if_neg l0]
  by_cases l1:link=1
  ·subst l1
   rw[if_pos rfl,zF (by decide),zD,zF (by decide),zD]
   simp only[Bf,Bg,Kt,J1,J2]
   exact HY h.symm h0.symm b hb [p,q]
  ·rw[if_neg l1]
   by_cases l2:link<0
   ·rw[zT l2];rfl
   ·rw[zF l2,zD,zT (by omega)];rfl
theorem aaU{c:zyl}(hc:Wf zvq c):∃p q n,c=([p,q],n,())/\∃g,oq c=some g/\(g=false->fC p q):=by
 obtain⟨p,q,e⟩:=Wn hc.1.1
 obtain⟨cl,n,u⟩:=c
 simp only[Prod.mk.injEq] at e
 obtain⟨rfl,_⟩:=e
 obtain⟨g,hg,io⟩:=Tq (p:=p) (q:=q) hc
 exact⟨p,q,n,rfl,g,hg,io⟩
end bn

namespace bn
open Go.IntKind renaming wrap->zW,i64->zI,u8->zU
open Go Go.Ref
section
variable {m:Map} {a b:zf} {x:bd} {ys:List aQ}
end
end bn

namespace bn
open Go.IntKind renaming wrap->zW,i64->zI,u8->zU
open Go Go.Ref
theorem zvy(p:bh)(n:Int)(m:bd)(f:bu):(jB p n m f).1≠1/\(cT m.1=false->(jB p n m f).1≠2):=by
 unfold jB
 split
 ·rename_i hr
  split
  ·exact⟨by decide,fun _=>by decide⟩
  ·exact⟨show(2:Int)≠1 by decide,fun h=>by rw[hr] at h;cases h⟩
 ·exact⟨by decide,fun _=>by decide⟩
section
variable {p q:bh} {n:Int} (h:fC p q) (h0:mi p q n)
include h
include h0
theorem H0{b s:ByteArray}(hb:b.size<=1099511627776)(ho:iw p q n b=(2,s)):∃x,fu p.1 x/\eM x/\cT x.1=false/\s=cQ p.1 x/\(s.size:Int)<=n:=by
 have oY:=FI p.1 b hb
 have PH:∀(f:bu),jB p n (gI p.1 b).1 f=(2,s)->∃x,fu p.1 x/\eM x/\cT x.1=false/\s=cQ p.1 x/\(s.size:Int)<=n:=fun f hf=>by
  unfold jB at hf
  split at hf
  ·rename_i hr
   obtain⟨b1,b2,b3⟩:=FE (Gg h0.rp) h.sp h.pe oY f.1 hr
   split at hf
   ·cases hf
   ·rename_i hn
    injection hf with _ hf
    exact⟨_,b1,b2,b3,hf.symm,by rw[<-hf];omega⟩
  ·cases hf
 unfold iw uA at ho
 split at ho
 ·exact PH _ ho
 unfold uB at ho
 split at ho
 ·exact PH _ ho
 split at ho
 ·exact PH _ ho
 ·cases ho
end
theorem Zo{s:zf}{x:bd}(hs:s.2.2.1.length<=maxLen)(h:fu s x)(hx:eM x):ot s (cQ s x)=some (x,true):=by
 have hz:=zws (s:=s) hx
 unfold ot Ls
 rw[Sx s _ hs (by omega),zc,FH h hx]
 dsimp only
 rw[zT (p:=(0:Int)=0) rfl,zC,S1 s x hs hx.ok,zc,h.eq]
 rfl
theorem Fs(p q:bh)(n:Int){x:bd}(h:fu p.1 x)(hx:eM x)(hr:cT x.1=false):(iw p q n (cQ p.1 x)).1≠2:=by
 unfold iw uA
 rw[FH h hx]
 dsimp only
 rw[if_neg (fun e=>e rfl)]
 unfold uB
 split
 ·exact(zvy p n x _).2 hr
 ·split
  ·exact(zvy p n x _).2 hr
  ·show(1:Int)≠2
   decide
theorem TA{p q:bh}{n link:Int}{b:ByteArray}(h:(jI p q n link b).1≠0):mi p q n/\((link=0/\jI p q n link b=iw p q n b)\/(link=1/\jI p q n link b=iw q p n b)):=by
 unfold jI at h⊢
 by_cases hc:(mI p q n).1=0
 case neg=>rw[if_pos hc] at h;exact absurd rfl h
 rw[if_neg (fun e=>e hc)] at h⊢
 refine⟨zmn.1 hc,?_⟩
 by_cases l0:link=0
 ·rw[if_pos l0];exact .inl ⟨l0,rfl⟩
 ·rw[if_neg l0] at h⊢
  by_cases l1:link=1
  ·rw[if_pos l1];exact .inr ⟨l1,rfl⟩
  ·rw[if_neg l1] at h;exact absurd rfl h
theorem gu(c:zyl)(link:Int)(b:ByteArray)(hc:Wf zvq c)(hl:Wf (.int .i64) link)(hb:Wf .str b):CR c link b=some true:=by
 obtain⟨p,q,n,rfl,g,hg,io⟩:=aaU hc
 unfold CR OH
 rw[aaT,zc,Bool.not_true,zD,hg,zc]
 cases g with
 |true=>rfl
 |false=>
  have h:=io rfl
  rw[zD]
  by_cases hs:(3000:Int)<(b.size:Int)
  ·rw[zT hs];rfl
  rw[zF hs,zD,zn8 p q n link b h (by omega),zc]
  have fin:∀(here:bh) (s:ByteArray) (x:bd),here.1.2.2.1.length<=maxLen->fu here.1 x->eM x->cT x.1=false->s=cQ here.1 x->(s.size:Int)<=n->(jI p q n link s).1≠2->((ot here.1 s).bind fun r7=>((jz ([p,q],n,()) link s).bind fun r8=>(bif r7.2 then((oo r7.1.1).bind fun r9=>(bif(!r9) then(bif(decide ((s.size:Int)<=n)) then some (!(decide (r8.1=(2:Int)))) else some false) else some false)) else some false)))=some true:=fun here s x h1 h2 h3 h4 h5 h6 h7=>by
   have hz:=zws (s:=here.1) h3
   have hm:=h3.n4
   subst h5
   rw[Zo h1 h2 h3,zc,zn8 p q n link _ h (by omega),zc]
   dsimp only
   rw[zC,Sd x.1 (by rw[zj];omega),zc,h4,Bool.not_false,zC,zT h6,zC,zF h7]
   rfl
  by_cases hk:(jI p q n link b).1=2
  case neg=>rw[zF hk];rfl
  obtain⟨h0,du⟩:=TA (p:=p) (q:=q) (n:=n) (link:=link) (b:=b) (by rw[hk];decide)
  have A3:=zmn.2 h0
  rw[zT hk,Bool.not_true,zD]
  rcases du with⟨rfl,e⟩|⟨rfl,e⟩
  ·rw[e] at hk⊢
   obtain⟨x,x1,x2,x3,x4,x5⟩:=H0 h h0 (b:=b) (s:=(iw p q n b).2) (by omega) (Prod.ext hk rfl)
   rw[zF (by decide),zD,zF (by decide),zD]
   simp only[Bf,Bg,Ks,J1,J2]
   refine fin p _ x h.sp.hN x1 x2 x3 x4 x5 ?_
   unfold jI
   rw[if_neg (fun e=>e A3),if_pos rfl,x4]
   exact Fs p q n x1 x2 x3
  ·rw[e] at hk⊢
   obtain⟨x,x1,x2,x3,x4,x5⟩:=H0 h.symm h0.symm (b:=b) (s:=(iw q p n b).2) (by omega) (Prod.ext hk rfl)
   rw[zF (by decide),zD,zF (by decide),zD]
   simp only[Bf,Bg,Kt,J1,J2]
   refine fin q _ x h.sq.hN x1 x2 x3 x4 x5 ?_
   unfold jI
   rw[if_neg (fun e=>e A3),if_neg (by decide),if_pos rfl,x4]
   exact Fs q p n x1 x2 x3
end bn

