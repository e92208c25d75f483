/- No condition. -/
import Derived.Test.YtkgpjibbdpikcaaGreatDoorK3
import Derived.Test.YtkgpjibbdpikcaaGreatDoorProg
set_option linter.unusedVariables false
set_option linter.unusedSimpArgs false
set_option maxRecDepth 100000
namespace bF
open Go.IntKind renaming wrap->zW,i64->zI,u8->zU
open Go Go.Ref
abbrev SL:=List bf×Int×Unit
abbrev aow:zf:=((0:Int),(0:Int),([]:List Spec),())
abbrev p5:bf:=(aow,LX,([]:List Int),([]:List aI),())
abbrev Mb:Ty:= .pair (.int .i64) (.pair .str .unit)
abbrev ub:Ty:= .pair aox (.pair Mc (.pair (.sl 0 (.int .i64)) (.pair (.sl 0 Mb) .unit)))
abbrev z156:Ty:= .pair (.arr 2 ub) (.pair (.int .i64) .unit)
theorem aie{c:SL}(h:c.1.length=2):∃p q,c=([p,q],c.2.1,()):=by
 obtain⟨l,n,u⟩:=c
 match l,h with
 | [p,q],_=>exact⟨p,q,rfl⟩
theorem zyc:∃k,ah=k+1+1+1:=⟨ah-3,by rw[zn]⟩
def I6(s:bf):Bool:=decide ((200:Int)<(s.1.2.2.1.length:Int))||(decide ((300:Int)<(s.2.2.1.length:Int))||(decide ((300:Int)<(s.2.2.2.1.length:Int))||s.2.2.2.1.any fun c=>decide ((1200:Int)<(c.2.1.size:Int))))
theorem QS:∀(l:List aI) (i:Int),aU (fun i (x:aI) (s:Unit) K=>(bif(decide ((1200:Int)<((x.2.1).size:Int))) then some (Sum.inl true) else K s)) (fun _=>some (Sum.inr ())) l i ()=some (bif l.any (fun c=>decide ((1200:Int)<(c.2.1.size:Int))) then Sum.inl true else Sum.inr ())
 | [],i=>rfl
 |x::r,i=>by
  rw[aU,List.any_cons]
  cases decide ((1200:Int)<(x.2.1.size:Int)) with
  |true=>rfl
  |false=>exact QS r (i+1)
theorem ztw(s:bf)(h:s.2.2.2.1.length<=maxLen):lS s=some (I6 s):=by
 unfold lS V5 I6
 cases decide ((200:Int)<(s.1.2.2.1.length:Int)) with
 |true=>rfl
 |false=>
  rw[zD,Bool.false_or]
  cases decide ((300:Int)<(s.2.2.1.length:Int)) with
  |true=>rfl
  |false=>
   rw[zD,Bool.false_or]
   cases decide ((300:Int)<(s.2.2.2.1.length:Int)) with
   |true=>rfl
   |false=>
    rw[zD,Bool.false_or]
    have:=b7 AH s.2.2.2.1 h (fun i (x:aI) (s:Unit) K=>(bif(decide ((1200:Int)<((x.2.1).size:Int))) then some (Sum.inl true) else K s)) (fun _=>some (Sum.inr ()))
     (fun k i u=>Sd k i s) (fun k i u=>rfl) ()
    dsimp only
    rw[this,QS]
    cases s.2.2.2.1.any (fun c=>decide ((1200:Int)<(c.2.1.size:Int)))<;>rfl
theorem MZ{s:bf}(h:I6 s=false):cN s/\s.1.2.2.1.length<=200/\s.2.2.1.length<=300/\s.2.2.2.1.length<=300/\∀c∈s.2.2.2.1,c.2.1.size<=1200:=by
 unfold I6 at h
 simp only[Bool.or_eq_false_iff,decide_eq_false_iff_not] at h
 obtain⟨h1,h2,h3,h4⟩:=h
 have ht:∀c∈s.2.2.2.1,c.2.1.size<=1200:=fun c hc=>by
  by_cases e:(1200:Int)<(c.2.1.size:Int)
  ·rw[List.any_eq_true.2 ⟨c,hc,zT e⟩] at h4;cases h4
  ·omega
 exact⟨⟨by rw[zj];omega,by omega,by omega,fun c hc=>by have:=ht c hc;omega⟩,by omega,by omega,by omega,ht⟩
structure eg(p q:bf):Prop where
 sp:cN p
 sq:cN q
 pm:c9 p.2.1
 qm:c9 q.2.1
 L3:p.1.2.2.1.length<=200
 L4:q.1.2.2.1.length<=200
 pe:p.2.2.1.length<=300
 qe:q.2.2.1.length<=300
 pml:p.2.1.2.1.length<=300
 qml:q.2.1.2.1.length<=300
 acg:∀c∈p.2.2.2.1,c.2.1.size<=1200
 ach:∀c∈q.2.2.2.1,c.2.1.size<=1200
theorem zr4{m:Map}(h:Bb m=false):m.2.1.length<=300:=by
 unfold Bb at h
 simp only[Bool.or_eq_false_iff,decide_eq_false_iff_not] at h
 omega
theorem aeq{p q:bf}{n:Int}(h:Wf z156 ([p,q],n,())):∃g,qn ([p,q],n,())=some g/\(g=false->eg p q):=by
 have hp:Wf ub p:=h.1.2 p (by simp)
 have hq:Wf ub q:=h.1.2 q (by simp)
 have w0:∀{R:Type} (x:Option R),zd 0 2 x=x:=fun x=>zl (by omega) (by omega)
 have w1:∀{R:Type} (x:Option R),zd 1 2 x=x:=fun x=>zl (by omega) (by omega)
 unfold qn Wb
 simp only[w0,w1]
 show∃g,((lS p).bind fun r1=>(bif r1 then some true else((lS q).bind fun r2=>(bif r2 then some true else((kV p.2.1).bind fun r3=>(bif r3 then some true else((kV q.2.1).bind fun r4=>some r4)))))))=some g/\_
 rw[ztw p hp.2.2.2.1.1,zc]
 cases h1:I6 p with
 |true=>exact⟨true,rfl,fun h=>by cases h⟩
 |false=>
  rw[zD,ztw q hq.2.2.2.1.1,zc]
  cases h2:I6 q with
  |true=>exact⟨true,rfl,fun h=>by cases h⟩
  |false=>
   rw[zD,O1 hp.2.1,zc]
   cases h3:Bb p.2.1 with
   |true=>exact⟨true,rfl,fun h=>by cases h⟩
   |false=>
    rw[zD,O1 hq.2.1,zc]
    refine⟨_,rfl,fun h4=> ?_⟩
    obtain⟨a1,a2,a3,a4,a5⟩:=MZ h1
    obtain⟨b1,b2,b3,b4,b5⟩:=MZ h2
    exact⟨a1,b1,MY h3,MY h4,a2,b2,a3,b3,zr4 h3,zr4 h4,a5,b5⟩
def jC(p q:bf)(n:Int):Int×Int×Int:=
 bif decide (n<1) then(5,2,0) else bif decide (65535<n) then(5,2,0)
 else bif !decide ((fh p).1=0) then((fh p).1,0,1) else bif !decide ((cZ p.2.1 p.1 q.1).1=0) then((cZ p.2.1 p.1 q.1).1,0,2)
 else bif !decide ((fh q).1=0) then((fh q).1,1,1) else bif !decide ((cZ q.2.1 q.1 p.1).1=0) then((cZ q.2.1 q.1 p.1).1,1,2) else(0,0,0)
theorem uN{R:Type}(x:Option R):zd 0 2 x=x:=zl (by omega) (by omega)
theorem uO{R:Type}(x:Option R):zd 1 2 x=x:=zl (by omega) (by omega)
theorem AJ:zW zI ((1:Int)-(0:Int))=1:=by decide
theorem AK:zW zI ((1:Int)-(1:Int))=0:=by decide
theorem HR:zW zI ((0:Int)+(1:Int))=1:=by decide
theorem HS:zW zI ((1:Int)+(1:Int))=2:=by decide
theorem gp(p q:bf):List.getD [p,q] (0:Int).toNat p5=p:=rfl
theorem gq(p q:bf):List.getD [p,q] (1:Int).toNat p5=q:=rfl
theorem acF(p q:bf)(n:Int)(h:eg p q):qv ([p,q],n,())=some (jC p q n):=by
 obtain⟨k,hk⟩:=zyc
 unfold qv WZ jC
 dsimp only
 cases decide (n<1) with
 |true=>rfl
 |false=>
  cases decide (65535<n) with
  |true=>rfl
  |false=>
   rw[zD,zD,zD,zD,hk]
   unfold GU Il
   simp only[uN,uO,AJ,AK,HR,HS,gp,gq]
   rw[zT (by decide:(0:Int)<2),zC,zrf p h.sp,zc]
   cases decide ((fh p).1=0) with
   |false=>rfl
   |true=>
    rw[Bool.not_true,zD,zD,z85 p.2.1 p.1 q.1 h.pm h.sp.fJ h.sq.fJ,zc]
    cases decide ((cZ p.2.1 p.1 q.1).1=0) with
    |false=>rfl
    |true=>
     rw[Bool.not_true,zD,zD]
     unfold GU Il
     simp only[uN,uO,AJ,AK,HR,HS,gp,gq]
     rw[zT (by decide:(1:Int)<2),zC,zrf q h.sq,zc]
     cases decide ((fh q).1=0) with
     |false=>rfl
     |true=>
      rw[Bool.not_true,zD,zD,z85 q.2.1 q.1 p.1 h.qm h.sq.fJ h.sp.fJ,zc]
      cases decide ((cZ q.2.1 q.1 p.1).1=0) with
      |false=>rfl
      |true=>
       rw[Bool.not_true,zD,zD]
       unfold GU Il
       rw[zF (by decide:¬(2:Int)<2),zD]
       rfl
theorem adV(p q:bf)(n:Int)(h:eg p q):sn ([p,q],n,())=some (jC p q n):=by
 obtain⟨k,hk⟩:=zyc
 unfold sn V8 jC
 dsimp only
 cases decide (n<1) with
 |true=>rfl
 |false=>
  cases decide (65535<n) with
  |true=>rfl
  |false=>
   rw[zD,zD,zD,zD,hk]
   unfold GL Ii
   simp only[uN,uO,AJ,AK,HR,HS,gp,gq]
   rw[zT (by decide:(0:Int)<2),zC,ztv p h.sp,zc]
   cases decide ((fh p).1=0) with
   |false=>rfl
   |true=>
    rw[Bool.not_true,zD,zD,zdr p.2.1 p.1 q.1 h.pm h.sp.fJ h.sq.fJ,zc]
    cases decide ((cZ p.2.1 p.1 q.1).1=0) with
    |false=>rfl
    |true=>
     rw[Bool.not_true,zD,zD]
     unfold GL Ii
     simp only[uN,uO,AJ,AK,HR,HS,gp,gq]
     rw[zT (by decide:(1:Int)<2),zC,ztv q h.sq,zc]
     cases decide ((fh q).1=0) with
     |false=>rfl
     |true=>
      rw[Bool.not_true,zD,zD,zdr q.2.1 q.1 p.1 h.qm h.sq.fJ h.sp.fJ,zc]
      cases decide ((cZ q.2.1 q.1 p.1).1=0) with
      |false=>rfl
      |true=>
       rw[Bool.not_true,zD,zD]
       unfold GL Ii
       rw[zF (by decide:¬(2:Int)<2),zD]
       rfl
theorem Ml(s:bf)(h:cN s)(h2:s.1.2.2.1.length<=200):sm s=some s:=by
 have he:=h.qI
 have hc:=h.fu
 unfold sm V3
 rw[aeN s.1 (by omega),zc,zT (by simp;omega),zC,zT (by simp;omega),zC]
 rfl
theorem AA(p q r:bf):List.set [p,q] (0:Int).toNat r=[r,q]:=rfl
theorem AB(p q r:bf):List.set [p,q] (1:Int).toNat r=[p,r]:=rfl
theorem HF(p q:bf):List.getD [p,q] (0:Int).toNat ((((0:Int),(0:Int),([]:List Spec),()),(([]:List bj),([]:List aN),()),([]:List Int),([]:List aI),()):bf)=p:=rfl
theorem HG(p q:bf):List.getD [p,q] (1:Int).toNat ((((0:Int),(0:Int),([]:List Spec),()),(([]:List bj),([]:List aN),()),([]:List Int),([]:List aI),()):bf)=q:=rfl
theorem aeP(p q:bf)(n:Int)(h:eg p q):sr ([p,q],n,())=some ([p,q],n,()):=by
 obtain⟨k,hk⟩:=zyc
 unfold sr Wa
 dsimp only
 rw[hk]
 unfold GM Ij
 simp only[uN,uO,AJ,AK,HR,HS,gp,gq,HF,HG,AA,AB]
 rw[zT (by decide:(0:Int)<2),zC,Mk _ h.pm,zc,Ml p h.sp h.L3,zc]
 unfold GM Ij
 simp only[uN,uO,AJ,AK,HR,HS,gp,gq,HF,HG,AA,AB]
 rw[zT (by decide:(1:Int)<2),zC,Mk _ h.qm,zc,Ml q h.sq h.L4,zc]
 unfold GM Ij
 rw[zF (by decide:¬(2:Int)<2),zD]
 rfl
theorem w0{R:Type}(x:Option R):zd 0 2 x=x:=zl (by omega) (by omega)
theorem w1{R:Type}(x:Option R):zd 1 2 x=x:=zl (by omega) (by omega)
theorem adP(r:aN)(b:zf)(t:ByteArray)(hp:r.2.2.2.2.1.length<=maxLen)(hb:b.2.2.1.length<=maxLen)(ht:t.size<=maxLen):lQ r b t=some (zx r b t):=by
 unfold lQ Vn zx
 rw[AQ b _ hb,Option.bind_some,zdq _ _ hp,Option.bind_some]
 rcases AR b r.2.2.1 with⟨h1,h2,h3⟩|⟨h1,h2,h3,h4⟩
 ·rw[h1,h2,zT (by omega:(-1:Int)<0)]
  generalize decide (r.1=1)=k1
  generalize decide (r.1=2)=k2
  generalize decide (r.1=3)=k3
  generalize decide (r.1=4)=k4
  generalize decide (r.1=5)=k5
  generalize zp r.2.2.2.2.1 t=q
  obtain⟨q1,q2⟩:=q
  cases k1<;>cases k2<;>cases k3<;>cases k4<;>cases k5<;>cases q2<;>rfl
 ·rw[h3,zF (by omega:¬dN b.2.2.1 r.2.2.1 0<0),zl h1 h2,h4,aiB t _ ht,Option.bind_some]
  generalize decide (r.1=1)=k1
  generalize decide (r.1=2)=k2
  generalize decide (r.1=3)=k3
  generalize decide (r.1=4)=k4
  generalize decide (r.1=5)=k5
  generalize eI t (aO b r.2.2.1).2.2.2.1=p
  generalize zp r.2.2.2.2.1 t=q
  obtain⟨p1,p2⟩:=p
  obtain⟨q1,q2⟩:=q
  cases k1<;>cases k2<;>cases k3<;>cases k4<;>cases k5<;>cases p2<;>cases q2<;>rfl
def gQ(no:Int):List aN->Int->Int
 | [],_=> -1
 |r::l,i=>if r.2.1=no then i else gQ no l (i+1)
theorem zeo(no:Int):∀(l:List aN) (i:Int),0<=i->(gQ no l i= -1/\l.find? (fun r=>decide (r.2.1=no))=none)\/(i<=gQ no l i/\gQ no l i<i+l.length/\l.find? (fun r=>decide (r.2.1=no))=some (l.getD (gQ no l i-i).toNat dd))
 | [],i,_=> .inl ⟨rfl,rfl⟩
 |r::l,i,h=>by
  unfold gQ
  rw[List.find?_cons]
  by_cases e:r.2.1=no
  ·rw[if_pos e,zT e]
   right
   refine⟨by omega,by simp only[List.length_cons];omega,?_⟩
   rw[show(i-i).toNat=0 by omega];rfl
  ·rw[if_neg e,zF e]
   rcases zeo no l (i+1) (by omega) with⟨h1,h2⟩|⟨h1,h2,h3⟩
   ·exact .inl ⟨h1,h2⟩
   ·right
    refine⟨by omega,by simp only[List.length_cons];omega,?_⟩
    rw[h3]
    congr 1
    have:(gQ no l (i+1)-i).toNat=(gQ no l (i+1)-(i+1)).toNat+1:=by omega
    rw[this];rfl
def exR(r:Int):Sum Int Unit:=bif decide (r<0) then .inr () else .inl r
theorem Ot(no:Int):∀(l:List aN) (i:Int),0<=i->aU (fun i (x:aN) (s:Unit) K=>(bif(decide (x.2.1=no)) then some (Sum.inl i) else K s)) (fun _=>some (Sum.inr ())) l i ()=some (exR (gQ no l i))
 | [],i,_=>rfl
 |x::r,i,h=>by
  rw[aU,gQ]
  by_cases e:x.2.1=no
  ·rw[zT e,zC,if_pos e]
   unfold exR
   rw[zF (by omega)];rfl
  ·rw[zF e,zD,if_neg e]
   exact Ot no r (i+1) (by omega)
theorem agL(m:Map)(no:Int)(h:m.2.1.length<=maxLen):lR m no=some (gQ no m.2.1 0):=by
 unfold lR VR
 dsimp only
 have:=b7 dd m.2.1 h (fun i (x:aN) (s:Unit) K=>(bif(decide (x.2.1=no)) then some (Sum.inl i) else K s)) (fun _=>some (Sum.inr ()))
  (fun k i s=>R9 k no i m) (fun k i s=>rfl) ()
 rw[this,Ot no m.2.1 0 (Int.le_refl _),zc]
 unfold exR
 rcases zeo no m.2.1 0 (Int.le_refl _) with⟨h1,_⟩|⟨h1,_⟩
 ·rw[h1];rfl
 ·rw[zF (by omega)];rfl
abbrev nZ:=ByteArray×List aI×Map×bc×bE
theorem O0(m:Map)(b:zf)(t:ByteArray)(hm:c9 m)(hb:b.2.2.1.length<=maxLen):∀(l:List aI) (i:Int) (s:List aI),s.length+l.length<=1000000->(∀v∈l,v.2.1.size<=1099511627776)->
 (∃f s',hM m b l= .inl f/\aU (fun i (v:aI) (s:List aI) K=>((lR m v.1).bind fun r4=>(bif(decide (r4<(0:Int))) then some (Sum.inl (t,s,m,aX,((9:Int),v.1,()))) else(zd r4 m.2.1.length ((lQ (List.getD m.2.1 r4.toNat dd) b v.2.1).bind fun r5=>(bif(!(decide (r5.2=(0:Int)))) then some (Sum.inl (t,s,m,aX,(r5.2,v.1,()))) else(bif(decide ((s.length+(List.length ([r5.1]:List aI)))*24<=140737488355328)) then K (s++([r5.1]:List aI)) else none))))))) (fun s=>some (Sum.inr (t,s,m,aX,zu))) l i s=some (.inl (t,s',m,aX,f):Sum nZ nZ))\/
 (∃ys,hM m b l= .inr ys/\aU (fun i (v:aI) (s:List aI) K=>((lR m v.1).bind fun r4=>(bif(decide (r4<(0:Int))) then some (Sum.inl (t,s,m,aX,((9:Int),v.1,()))) else(zd r4 m.2.1.length ((lQ (List.getD m.2.1 r4.toNat dd) b v.2.1).bind fun r5=>(bif(!(decide (r5.2=(0:Int)))) then some (Sum.inl (t,s,m,aX,(r5.2,v.1,()))) else(bif(decide ((s.length+(List.length ([r5.1]:List aI)))*24<=140737488355328)) then K (s++([r5.1]:List aI)) else none))))))) (fun s=>some (Sum.inr (t,s,m,aX,zu))) l i s=some (.inr (t,s++ys,m,aX,zu):Sum nZ nZ))
 | [],i,s,_,_=> .inr ⟨[],rfl,by simp [aU]⟩
 |v::r,i,s,h,ht=>by
  simp only[List.length_cons] at h
  have hl:=hm.len
  have hv:=ht v List.mem_cons_self
  rw[aU,agL m v.1 (by rw[zj];omega),zc,hM]
  unfold dG
  rcases zeo v.1 m.2.1 0 (Int.le_refl _) with⟨h1,h2⟩|⟨h1,h2,h3⟩
  ·rw[h1,h2,zT (by omega:(-1:Int)<0)]
   exact .inl ⟨_,s,rfl,rfl⟩
  ·rw[Int.sub_zero] at h3
   have hq:List.getD m.2.1 (gQ v.1 m.2.1 0).toNat dd∈m.2.1:=by
    rw[List.getD_eq_getElem?_getD,List.getElem?_eq_getElem (by omega)]
    exact List.getElem_mem _
   rw[h3,zF (by omega:¬gQ v.1 m.2.1 0<0),zD,zl h1 (by omega)]
   generalize List.getD m.2.1 (gQ v.1 m.2.1 0).toNat dd=q at*
   have qp:=(hm.rules q hq).eJ.len
   dsimp only
   rw[adP q b v.2.1 (by rw[zj];omega) hb (by rw[zj];omega),zc]
   generalize zx q b v.2.1=y
   cases decide (y.2=0) with
   |false=>exact .inl ⟨_,s,rfl,rfl⟩
   |true=>
    rw[Bool.not_true,zD,zD,zT (by simp only[List.length_singleton];omega),zC]
    rcases O0 m b t hm hb r (i+1) (s++ [y.1]) (by rw[List.length_append,List.length_singleton];omega) (fun w hw=>ht w (List.mem_cons_of_mem _ hw)) with⟨f,s',e1,e2⟩|⟨ys,e1,e2⟩
    ·exact .inl ⟨f,s',by rw[e1],e2⟩
    ·refine .inr ⟨y.1::ys,by rw[e1],?_⟩
     rw[e2,List.append_assoc];rfl
theorem za3{ρ:Type}(fin:List aI->Option ρ):∀(l:List aN) (i:Int) (s:List aI),s.length+l.length<=1000000->
 aU (fun i (r:aN) (s:List aI) K=>(bif(decide (r.1=(3:Int))) then(bif(decide ((s.length+(List.length ([(r.2.2.1,r.2.2.2.1,())]:List aI)))*24<=140737488355328)) then K (s++([(r.2.2.1,r.2.2.2.1,())]:List aI)) else none) else K s)) fin l i s=fin (s++gw l)
 | [],i,s,_=>by show fin s=_;simp [gw]
 |r::l,i,s,h=>by
  simp only[List.length_cons] at h
  rw[aU]
  unfold gw
  rw[List.filter_cons]
  cases decide (r.1=3) with
  |false=>
   rw[zD,if_neg (by decide)]
   exact za3 fin l (i+1) s (by omega)
  |true=>
   rw[zC,if_pos rfl,zT (by simp only[List.length_singleton];omega),zC]
   refine(za3 fin l (i+1) _ (by rw[List.length_append,List.length_singleton];omega)).trans ?_
   rw[List.append_assoc];rfl
theorem zax{ρ:Type}(no:Int)(fin:bc->Option ρ):∀(l:List aI) (i:Int) (s:bc),s.2.1.length+l.length<=1000000000->
 aU (fun i (v:aI) (s:bc) K=>(bif(decide (v.1=no)) then(bif(decide ((s.2.1.length+(List.length ([v]:List aI)))*24<=140737488355328)) then K (s.1,(s.2.1++([v]:List aI)),()) else none) else K s)) fin l i s=fin (s.1,s.2.1++l.filter (fun v=>decide (v.1=no)),())
 | [],i,s,_=>by show fin s=_;simp
 |v::l,i,s,h=>by
  simp only[List.length_cons] at h
  rw[aU,List.filter_cons]
  cases decide (v.1=no) with
  |false=>
   rw[zD,if_neg (by decide)]
   exact zax no fin l (i+1) s (by omega)
  |true=>
   rw[zC,if_pos rfl,zT (by simp only[List.length_singleton];omega),zC]
   refine(zax no fin l (i+1) _ (by show(s.2.1++ [v]).length+_<=_;rw[List.length_append,List.length_singleton];omega)).trans ?_
   show fin (s.1,(s.2.1++ [v])++_,())=_
   rw[List.append_assoc];rfl
theorem aoj(vs:List aI)(hv:vs.length<=1000000)(no:Int)(s:bc)(h:s.2.1.length+vs.length<=1000000000):ve ah vs no 0 aX zu s=some (vs,no,aX,zu,(s.1,s.2.1++vs.filter (fun v=>decide (v.1=no)),())):=by
 have:=fH eQ vs (by rw[zj];omega) (fun i (v:aI) (s:bc) K=>(bif(decide (v.1=no)) then(bif(decide ((s.2.1.length+(List.length ([v]:List aI)))*24<=140737488355328)) then K (s.1,(s.2.1++([v]:List aI)),()) else none) else K s)) (fun s=>some (vs,no,aX,zu,s))
  (fun k i s=>ve k vs no i aX zu s) (fun k i s h0 h1=>by
    show ve (k+1) vs no i aX zu s=_
    conv=>lhs;unfold ve R8
    rw[zT h1,zC,zl h0 h1,zl h0 h1]) (fun k s=>by
    show ve (k+1) vs no vs.length aX zu s=_
    conv=>lhs;unfold ve R8
    rw[zF (by omega),zD]) s
 rw[this,zax no _ _ _ _ h]
theorem P5(vs:List aI)(hv:vs.length<=1000000):∀(n j k:Nat) (s:bc),j+n=129->n<k->s.2.1.length+(n+1)*vs.length<=1000000000->GG k vs (j:Int) aX zu s=some (aX,zu,(s.1,s.2.1++lG vs n j,()))
 |n,j,0,s,_,hk,_=>by omega
 |0,j,k+1,s,hj,hk,_=>by
  unfold GG R7
  rw[zF (by omega),zD]
  simp [lG]
 |n+1,j,k+1,s,hj,hk,h=>by
  unfold GG R7
  have hmul:(n+1+1)*vs.length=(n+1)*vs.length+vs.length:=by rw[Nat.add_mul,Nat.one_mul]
  rw[zT (by omega),zC]
  dsimp only
  rw[aoj vs hv (j:Int) s (by rw[hmul] at h;omega),zc]
  unfold VP
  dsimp only
  rw[zo (by omega)]
  have hf:(vs.filter fun v=>decide (v.1=(j:Int))).length<=vs.length:=List.length_filter_le _ _
  refine(P5 vs hv n (j+1) k _ (by omega) (by omega) (by
   show(s.2.1++vs.filter fun v=>decide (v.1=(j:Int))).length+_<=_
   rw[List.length_append]
   rw[hmul] at h
   omega)).trans ?_
  show some (aX,zu,(s.1,(s.2.1++vs.filter fun v=>decide (v.1=(j:Int)))++lG vs n (j+1),()))=_
  rw[List.append_assoc]
  rfl
theorem zqx{m:Map}{b:zf}:∀{l ys:List aI},hM m b l= .inr ys->ys.length=l.length
 | [],ys,h=>by cases h;rfl
 |v::r,ys,h=>by
  rw[hM] at h
  cases hf:dG m v.1 with
  |none=>rw[hf] at h;cases h
  |some q=>
   rw[hf] at h
   dsimp only at h
   cases hz:decide ((zx q b v.2.1).2=0) with
   |false=>rw[hz] at h;cases h
   |true=>
    rw[hz,Bool.not_true,zD] at h
    cases hr:hM m b r with
    |inl f=>rw[hr] at h;cases h
    |inr zs=>
     rw[hr] at h
     cases h
     rw[List.length_cons,List.length_cons,zqx hr]
theorem aea(l:List aN):(gw l).length<=l.length:=by
 unfold gw
 rw[List.length_map]
 exact List.length_filter_le _ _
theorem ad3(m:Map)(a b:zf)(h:c9 m)(ha:a.2.2.1.length<=maxLen)(hb:b.2.2.1.length<=maxLen):sf m a b=some (decide ((cZ m a b).1=0)):=by
 unfold sf VH
 rw[zdr m a b h ha hb,zc]
theorem aco(m:Map)(a b:zf)(x:bc)(hm:c9 m)(Ae:m.2.1.length<=300)(hx:dm x)(rD:x.2.1.length<=200)(ha:a.2.2.1.length<=maxLen)(hb:b.2.2.1.length<=maxLen):qk m a b x=some (I7 m a b x):=by
 have hl:=hm.mC.len
 unfold qk VM I7
 rw[ad3 m a b hm ha hb,zc]
 cases decide ((cZ m a b).1=0) with
 |false=>rfl
 |true=>
  rw[Bool.not_true,zD,zD,adS a x ha hx,zc]
  cases decide ((eO a x).1=0) with
  |false=>rfl
  |true=>
   rw[Bool.not_true,zD,zD,zdq _ _ (by rw[zj];omega),zc]
   cases(zp m.1 x.1).2 with
   |false=>rfl
   |true=>
    rw[Bool.not_true,zD,zD]
    dsimp only
    have h1:=fH eQ x.2.1 (by rw[zj];omega) (fun i (v:aI) (s:List aI) K=>((lR m v.1).bind fun r4=>(bif(decide (r4<(0:Int))) then some (Sum.inl ((zp m.1 x.1).1,s,m,aX,((9:Int),v.1,()))) else(zd r4 m.2.1.length ((lQ (List.getD m.2.1 r4.toNat dd) b v.2.1).bind fun r5=>(bif(!(decide (r5.2=(0:Int)))) then some (Sum.inl ((zp m.1 x.1).1,s,m,aX,(r5.2,v.1,()))) else(bif(decide ((s.length+(List.length ([r5.1]:List aI)))*24<=140737488355328)) then K (s++([r5.1]:List aI)) else none))))))) (fun s=>some (Sum.inr ((zp m.1 x.1).1,s,m,aX,zu)))
     (fun k i s=>xG k (zp m.1 x.1).1 s i m b x aX zu aX) (fun k i s h0 h1=>by
       show xG (k+1) (zp m.1 x.1).1 s i m b x aX zu aX=_
       conv=>lhs;unfold xG R5
       have hw:∀{R:Type} (z:Option R),zd i x.2.1.length z=z:=fun z=>zl h0 h1
       simp only[hw,zT h1,zC]) (fun k s=>by
       show xG (k+1) (zp m.1 x.1).1 s x.2.1.length m b x aX zu aX=_
       conv=>lhs;unfold xG R5
       rw[zF (by omega),zD]) []
    rw[h1]
    rcases O0 m b (zp m.1 x.1).1 hm hb x.2.1 0 [] (by simp;omega) hx.mJ with⟨f,s',e1,e2⟩|⟨ys,e1,e2⟩
    ·rw[e2,e1];rfl
    ·rw[e2,e1,zc]
     rw[Sum.elim_inr]
     unfold VN
     dsimp only
     rw[List.nil_append]
     have qP:=zqx e1
     have h2:=fH dd m.2.1 (by rw[zj];omega) (fun i (r:aN) (s:List aI) K=>(bif(decide (r.1=(3:Int))) then(bif(decide ((s.length+(List.length ([(r.2.2.1,r.2.2.2.1,())]:List aI)))*24<=140737488355328)) then K (s++([(r.2.2.1,r.2.2.2.1,())]:List aI)) else none) else K s)) (fun s=>some ((zp m.1 x.1).1,s,aX,zu))
      (fun k i s=>xH k (zp m.1 x.1).1 s i m aX zu) (fun k i s h0 h1=>by
        show xH (k+1) (zp m.1 x.1).1 s i m aX zu=_
        conv=>lhs;unfold xH R6
        have hw:∀{R:Type} (z:Option R),zd i m.2.1.length z=z:=fun z=>zl h0 h1
        simp only[hw,zT h1,zC]) (fun k s=>by
        show xH (k+1) (zp m.1 x.1).1 s m.2.1.length m aX zu=_
        conv=>lhs;unfold xH R6
        rw[zF (by omega),zD]) ys
     rw[h2,za3 _ _ _ _ (by omega),zc]
     unfold VO
     dsimp only
     have hc:=aea m.2.1
     have Al:(ys++gw m.2.1).length<=500:=by rw[List.length_append];omega
     have h3:=P5 (ys++gw m.2.1) (by omega) 127 2 ah ((zp m.1 x.1).1,[],()) (by omega) (by rw[zn];omega) (by
      show([]:List aI).length+_<=_
      simp only[List.length_nil]
      omega)
     rw[show((2:Nat):Int)=(2:Int) from rfl] at h3
     rw[h3,zc]
     rfl
def cK(m:ByteArray):ByteArray:=strOf [ze m 0,ze m 1,ze m 2+1,ze m 3]
theorem PS{m:ByteArray}(h:m.size=4):bl m=[ze m 0,ze m 1,ze m 2,ze m 3]:=by
 have hl:(bl m).length=4:=by rw[zg];exact h
 have e:=fun i=>lM m i
 match hb:bl m,hl with
 | [a,b,c,d],_=>rw[e 0,e 1,e 2,e 3,hb];rfl
theorem Ry{m:ByteArray}(h:dv m=true):zy m=true/\(ze m 2=48\/ze m 2=50):=by
 unfold dv at h
 rw[Bool.and_eq_true,Bool.or_eq_true,decide_eq_true_eq,decide_eq_true_eq] at h
 exact h
theorem z152{m:ByteArray}(h:dv m=true):bl (cK m)=[ze m 0,ze m 1,ze m 2+1,ze m 3]/\bh [ze m 0,ze m 1,ze m 2+1,ze m 3]=true:=by
 obtain⟨hr,h2⟩:=Ry h
 have d0:=qa hr 0 (by decide)
 have d1:=qa hr 1 (by decide)
 have d3:=qa hr 3 (by decide)
 have hd:bh [ze m 0,ze m 1,ze m 2+1,ze m 3]=true:=qW.2 ⟨qV.2 d0,qW.2 ⟨qV.2 d1,qW.2 ⟨qV.2 (by omega),qW.2 ⟨qV.2 d3,rfl⟩⟩⟩⟩
 exact⟨rF (ML hd),hd⟩
theorem aov{m:ByteArray}(h:dv m=true):zy (cK m)=true/\dD (cK m)=dD m/\dv (cK m)=false:=by
 obtain⟨hr,h2⟩:=Ry h
 obtain⟨hb,hd⟩:=z152 h
 have hs:(cK m).size=4:=by rw[<-zg,hb];rfl
 have eN:zy (cK m)=true:=mW.2 ⟨hs,by rw[hb];exact hd⟩
 have e0:ze (cK m) 0=ze m 0:=by rw[lM (cK m),hb];rfl
 have e2:ze (cK m) 2=ze m 2+1:=by rw[lM (cK m),hb];rfl
 refine⟨eN,?_,?_⟩
 ·unfold dD
  rw[hr,eN,e0]
 ·unfold dv
  rw[eN,e2,zF (by omega),zF (by omega)];rfl
theorem adt(m:ByteArray)(h:m.size<=maxLen):sF m=some (if dv m=true then(cK m,true) else(bs [],false)):=by
 unfold sF WA
 rw[ze0 m h,zc]
 cases hr:dv m with
 |false=>rfl
 |true=>
  obtain⟨eV,h2⟩:=Ry hr
  have h4:=(mW.1 eV).1
  have hb:=PS h4
  have z1:(m.extract 0 2).size=2:=by rw[ByteArray.size_extract];omega
  have z3:(m.extract 3 m.size).size=1:=by rw[ByteArray.size_extract];omega
  have zs:∀x:Int,(strOf [x]).size=1:=fun x=>by rw[lL];rfl
  have hw:zW zU (ze m 2+1)=ze m 2+1:=by
   rcases h2 with e|e<;>rw[e]<;>decide
  rw[Bool.not_true,zD,show((2:Int)).toNat=2 from rfl,show((3:Int)).toNat=3 from rfl,zT (by omega),zC,show(2:Int)=((2:Nat):Int) from rfl,zh (by omega),hw,zT (by rw[z1,zs];decide),zC,zT (by omega),zC,zT (by rw[z31,z1,zs,z3];decide),zC,if_pos rfl]
  congr 2
  apply vi
  rw[z28,z28,uP,uP,h4,hb,(z152 hr).1]
  have hx:zq (ze m 2+1):=by unfold zq;omega
  rw[rF (xs:=[ze m 2+1]) (by simpa using hx)]
  rfl
theorem acu(m:ByteArray)(hr:dv m=true):rT m=some (cK m):=by
 obtain⟨eV,h2⟩:=Ry hr
 obtain⟨h4,hd⟩:=mW.1 eV
 obtain⟨hb,fR⟩:=z152 hr
 have hm:=PS h4
 have d0:=qa eV 0 (by decide)
 have d1:=qa eV 1 (by decide)
 have d3:=qa eV 3 (by decide)
 unfold rT UX
 have hg:cW (bl m)=(c8 (bl m) 0,true):=by
  unfold cW
  rw[if_pos ⟨by rw[zg];omega,by rw[zg];omega,hd⟩]
 have hv:c8 (bl m) 0=1000*(ze m 0-48)+100*(ze m 1-48)+10*(ze m 2-48)+(ze m 3-48):=by
  rw[hm];unfold c8;simp only[List.foldl];omega
 have Cb:c8 [ze m 0,ze m 1,ze m 2+1,ze m 3] 0=c8 (bl m) 0+10:=by
  rw[hv];unfold c8;simp only[List.foldl];omega
 have hw:zW zI (c8 (bl m) 0+10)=c8 (bl m) 0+10:=zi (by omega) (by omega)
 obtain⟨g1,g2⟩:=ztd 4 (c8 (bl m) 0+10).toNat _ fR rfl (by rw[Cb,Int.toNat_of_nonneg (by omega)])
 rw[Ut m (by rw[zj];omega),zc,hg]
 dsimp only
 rw[hw,NH _ _ (by omega),zc,Tr ⟨by omega,by decide,by decide,g2⟩]
 dsimp only
 rw[show((4:Int)).toNat=4 from rfl,g1]
 rfl
def dC(l:List aI)(no:Int):Option aI:=l.find? fun v=>decide (v.1=no)
theorem Oi(no:Int):∀(l:List aI) (i:Int),aU (fun i (x:aI) (s:Unit) K=>bif decide (x.1=no) then some (Sum.inl (x.2.1,true)) else K s) (fun _=>some (Sum.inr ())) l i ()=some (match dC l no with
 |some v=> .inl (v.2.1,true)
 |none=>(.inr ():Sum gF Unit))
 | [],i=>rfl
 |x::r,i=>by
  rw[aU]
  unfold dC
  rw[List.find?_cons]
  cases hx:decide (x.1=no) with
  |true=>rfl
  |false=>exact Oi no r (i+1)
theorem al6(m:bc)(no:Int)(h:m.2.1.length<=1000000):nb m no=some (match dC m.2.1 no with
 |some v=>(v.2.1,true)
 |none=>(bs [],false)):=by
 unfold nb Wt
 dsimp only
 have:=b7 eQ m.2.1 (by rw[zj];omega) (fun i (x:aI) (s:Unit) K=>bif decide (x.1=no) then some (Sum.inl (x.2.1,true)) else K s) (fun _=>some (Sum.inr ())) (fun k i s=>Si k no m.2.1 (m.2.1.length:Int) i) (fun k i s=>rfl) ()
 rw[this,Oi]
 cases dC m.2.1 no<;>rfl
def gk(no:Int):List aI->Int->Int
 | [],_=> -1
 |x::r,i=>if x.1=no then i else gk no r (i+1)
theorem HX(no:Int):∀(l:List aI) (i:Int),0<=i->(gk no l i= -1/\dC l no=none)\/(i<=gk no l i/\gk no l i<i+l.length/\dC l no=some (l.getD (gk no l i-i).toNat eQ))
 | [],i,h=> .inl ⟨rfl,rfl⟩
 |x::r,i,h=>by
  unfold gk dC
  rw[List.find?_cons]
  by_cases hx:x.1=no
  ·rw[if_pos hx,zT hx]
   exact .inr ⟨by omega,by simp only[List.length_cons];omega,by rw[show(i-i).toNat=0 by omega];rfl⟩
  ·rw[if_neg hx,zF hx]
   rcases HX no r (i+1) (by omega) with⟨h1,h2⟩|⟨h1,h2,h3⟩
   ·exact .inl ⟨h1,h2⟩
   ·refine .inr ⟨by omega,by simp only[List.length_cons];omega,?_⟩
    rw[show(gk no r (i+1)-i).toNat=(gk no r (i+1)-(i+1)).toNat+1 by omega]
    exact h3
def HE(r:Int):Sum Int Unit:=bif decide (r<0) then .inr () else .inl r
theorem Oq(no:Int):∀(l:List aI) (i:Int),0<=i->aU (fun i (x:aI) (s:Unit) K=>bif decide (x.1=no) then some (Sum.inl i) else K s) (fun _=>some (Sum.inr ())) l i ()=some (HE (gk no l i))
 | [],i,_=>rfl
 |x::r,i,h=>by
  rw[aU,gk]
  by_cases hx:x.1=no
  ·rw[zT hx,if_pos hx]
   unfold HE
   rw[zF (by omega)];rfl
  ·rw[zF hx,if_neg hx]
   exact Oq no r (i+1) (by omega)
theorem aeR(m:bc)(no:Int)(h:m.2.1.length<=1000000):rV m no=some (gk no m.2.1 0):=by
 unfold rV U2
 dsimp only
 have:=b7 eQ m.2.1 (by rw[zj];omega) (fun i (x:aI) (s:Unit) K=>bif decide (x.1=no) then some (Sum.inl i) else K s) (fun _=>some (Sum.inr ())) (fun k i s=>Gw k no i m) (fun k i s=>by
  show Gw (k+1) no i m=_
  conv=>lhs;unfold Gw U3) ()
 rw[this,Oq no _ 0 (Int.le_refl _),zc]
 unfold HE
 rcases HX no m.2.1 0 (Int.le_refl _) with⟨h1,_⟩|⟨h1,_⟩
 ·rw[h1];rfl
 ·rw[zF (by omega)];rfl
theorem Ug{ρ:Type}(no:Int)(t:ByteArray)(q:ByteArray)(fin:Bool×bc->Option ρ):∀(l:List aI) (i:Int) (f:Bool) (o:List aI),o.length+2*l.length<=4000000->
 aU (fun i (x:aI) (s:Bool×bc) K=>bif !s.1 then(bif decide (no<x.1) then(bif decide ((s.2.2.1.length+([(no,t,())]:List aI).length)*24<=140737488355328) then(bif decide (((s.2.2.1++ [(no,t,())]).length+([x]:List aI).length)*24<=140737488355328) then K (true,(s.2.1,(s.2.2.1++ [(no,t,())])++ [x],())) else none) else none) else(bif decide ((s.2.2.1.length+([x]:List aI).length)*24<=140737488355328) then K (s.1,(s.2.1,s.2.2.1++ [x],())) else none)) else(bif decide ((s.2.2.1.length+([x]:List aI).length)*24<=140737488355328) then K (s.1,(s.2.1,s.2.2.1++ [x],())) else none)) (fun s=>fin s) l i (f,(q,o,()))=(if f=true then fin (true,(q,o++l,())) else if(l.any fun x=>decide (no<x.1))=true then fin (true,(q,o++gT no t l,())) else fin (false,(q,o++l,())))
 | [],i,f,o,_=>by cases f<;>simp [aU]
 |x::r,i,f,o,h=>by
  rw[List.length_cons] at h
  have d1:decide ((o.length+([x]:List aI).length)*24<=140737488355328)=true:=zT (by simp only[List.length_singleton];omega)
  rw[aU]
  dsimp only
  cases f with
  |true=>
   rw[Bool.not_true,zD,d1,zC,Ug no t q fin r (i+1) true (o++ [x]) (by rw[List.length_append,List.length_singleton];omega),if_pos rfl,if_pos rfl,List.append_assoc]
   rfl
  |false=>
   rw[Bool.not_false,zC,if_neg (by decide)]
   by_cases hx:no<x.1
   ·have d2:decide ((o.length+([(no,t,())]:List aI).length)*24<=140737488355328)=true:=zT (by simp only[List.length_singleton];omega)
    have d3:decide (((o++ [(no,t,())]).length+([x]:List aI).length)*24<=140737488355328)=true:=zT (by simp only[List.length_singleton,List.length_append];omega)
    rw[zT hx,zC,d2,zC,d3,zC,Ug no t q fin r (i+1) true _ (by simp only[List.length_append,List.length_singleton];omega),if_pos rfl,List.any_cons,zT hx,Bool.true_or,if_pos rfl,gT,if_pos hx]
    simp
   ·rw[zF hx,zD,d1,zC,Ug no t q fin r (i+1) false (o++ [x]) (by rw[List.length_append,List.length_singleton];omega),if_neg (by decide),List.any_cons,zF hx,Bool.false_or,gT,if_neg hx]
    simp
theorem Ox{no:Int}{t:ByteArray}:∀{l:List aI},¬(l.any fun x=>decide (no<x.1))=true->gT no t l=l++ [(no,t,())]
 | [],_=>rfl
 |x::r,h=>by
  rw[List.any_cons,Bool.or_eq_true,not_or] at h
  have hx:¬no<x.1:=fun h2=>h.1 (zT h2)
  rw[gT,if_neg hx,Ox h.2];rfl
theorem Mn(m:bc)(no:Int)(t:ByteArray)(h:m.2.1.length<=1000000):qd m no t=some (dq m no t):=by
 have hl:=zjh m.2.1 no
 have hwo:rX m no=some (m.1,dF m.2.1 no,()):=by
  unfold rX Va
  dsimp only
  have:=fH eQ m.2.1 (by rw[zj];omega) (fun i (x:aI) (s:bc×bc) K=>(bif(!(decide (x.1=no))) then(bif(decide ((s.2.2.1.length+(List.length ([x]:List aI)))*24<=140737488355328)) then K (s.1,(s.2.1,(s.2.2.1++([x]:List aI)),())) else none) else K s)) (fun s=>some s)
   (fun k i s=>(xC k no i m s.1 s.2)) (fun k i s h0 h1=>by
     show xC (k+1) no i m s.1 s.2=_
     conv=>lhs;unfold xC RP
     rw[zT h1,zC,zl h0 h1,zl h0 h1]) (fun k s=>by
     show xC (k+1) no m.2.1.length m s.1 s.2=_
     conv=>lhs;unfold xC RP
     rw[zF (by omega),zD]) ((bs [],[],()),(m.1,[],()))
  rw[this,T6 no _ _ _ _ (by simp;omega)]
  rfl
 unfold qd U7 dq
 rw[hwo,zc]
 dsimp only
 rw[Ye]
 generalize dF m.2.1 no=old at*
 have hL:=fH eQ old (by rw[zj];omega) (fun i (x:aI) (s:Bool×bc) K=>bif !s.1 then(bif decide (no<x.1) then(bif decide ((s.2.2.1.length+([(no,t,())]:List aI).length)*24<=140737488355328) then(bif decide (((s.2.2.1++ [(no,t,())]).length+([x]:List aI).length)*24<=140737488355328) then K (true,(s.2.1,(s.2.2.1++ [(no,t,())])++ [x],())) else none) else none) else(bif decide ((s.2.2.1.length+([x]:List aI).length)*24<=140737488355328) then K (s.1,(s.2.1,s.2.2.1++ [x],())) else none)) else(bif decide ((s.2.2.1.length+([x]:List aI).length)*24<=140737488355328) then K (s.1,(s.2.1,s.2.2.1++ [x],())) else none)) (fun s=>some (no,t,s.1,aX,s.2))
  (fun k i s=>xB k no t s.1 i aX s.2 (m.1,old,())) (fun k i s h0 h1=>by
    show xB (k+1) no t s.1 i aX s.2 (m.1,old,())=_
    conv=>lhs;unfold xB RO
    rw[zT h1,zC]
    simp only[zl h0 h1]) (fun k s=>by
    show xB (k+1) no t s.1 old.length aX s.2 (m.1,old,())=_
    conv=>lhs;unfold xB RO
    rw[zF (by dsimp only;omega),zD]) (false,(m.1,[],()))
 rw[show((bs [],[],()):bc)=aX from rfl]
 have hR:=Ug no t m.1 (fun s=>some (no,t,s.1,aX,s.2)) old 0 false [] (by simp;omega)
 dsimp only at hL
 rw[hL,hR,if_neg (by decide)]
 by_cases ha:(old.any fun x=>decide (no<x.1))=true
 ·rw[if_pos ha,zc]
  rfl
 ·rw[if_neg ha,zc]
  unfold U8
  dsimp only
  rw[Bool.not_false,zC,zT (by simp only[List.nil_append,List.length_singleton];omega),zC,Ox ha]
  rfl
def fq(s:bf)(e:Int):ByteArray:=match dC s.2.2.2.1 e with
 |some c=>c.2.1
 |none=>match dC s.2.2.2.1 0 with
  |some c=>c.2.1
  |none=>bs []
theorem MH(s:bf)(e:Int)(q:List Int)(n i0:Int):∀(l:List aI) (i:Int),aU (fun i (x:aI) (u:Unit) K=>bif decide (x.1=e) then some (Sum.inl (x.2.1,q,n,i0,s)) else K u) (fun _=>some (Sum.inr (q,n,i0,s))) l i ()=some (match dC l e with
 |some v=> .inl (v.2.1,q,n,i0,s)
 |none=>(.inr (q,n,i0,s):Sum (ByteArray×List Int×Int×Int×bf) (List Int×Int×Int×bf)))
 | [],i=>rfl
 |x::r,i=>by
  rw[aU]
  unfold dC
  rw[List.find?_cons]
  cases hx:decide (x.1=e) with
  |true=>rfl
  |false=>exact MH s e q n i0 r (i+1)
theorem aoa(s:bf)(hs:s.2.2.2.1.length<=1000000)(e:Int)(q:List Int)(n i0:Int):Ik ah e q n i0 s.2.2.2.1 (s.2.2.2.1.length:Int) 0 s=some (match dC s.2.2.2.1 e with
 |some v=> .inl (v.2.1,q,n,i0,s)
 |none=>(.inr (q,n,i0,s):Sum (ByteArray×List Int×Int×Int×bf) (List Int×Int×Int×bf))):=by
 rw[<-MH s e q n i0 s.2.2.2.1 0]
 exact b7 eQ s.2.2.2.1 (by rw[zj];omega) (fun i (x:aI) (u:Unit) K=>bif decide (x.1=e) then some (Sum.inl (x.2.1,q,n,i0,s)) else K u) (fun _=>some (Sum.inr (q,n,i0,s))) (fun k i u=>Ik k e q n i0 s.2.2.2.1 (s.2.2.2.1.length:Int) i s) (fun k i u=>rfl) ()
theorem al1(s:bf)(hs:s.2.2.2.1.length<=1000000)(e:Int):sJ s e=some (fq s e):=by
 obtain⟨k,hk⟩:=zyc
 have h1:=aoa s hs
 unfold sJ WT fq
 dsimp only
 rw[show(List.length [e,(0:Int)]:Int)=2 from rfl]
 have step:∀(K i:Nat) (x:Int),i<2->List.getD [e,(0:Int)] i 0=x->AY (K+1) [e,0] 2 (i:Int) s=match dC s.2.2.2.1 x with
  |some v=>some (.inr v.2.1)
  |none=>AY K [e,0] 2 ((i+1:Nat):Int) s:=by
  intro K i x hi hx
  conv=>lhs;unfold AY Sq
  rw[zT (by omega),zC,show(List.length [e,(0:Int)])=2 from rfl,zh hi,Int.toNat_natCast,hx]
  dsimp only
  rw[h1,zc]
  cases dC s.2.2.2.1 x with
  |some v=>rfl
  |none=>
   dsimp only
   rw[Sum.elim_inr]
   unfold WU
   dsimp only
   rw[zo (by omega)]
 have s0:=step (k+1+1) 0 e (by decide) rfl
 have s1:=step (k+1) 1 0 (by decide) rfl
 rw[show((0:Nat):Int)=0 from rfl] at s0
 rw[hk,s0]
 cases dC s.2.2.2.1 e with
 |some v=>rfl
 |none=>
  dsimp only
  rw[s1]
  cases dC s.2.2.2.1 0 with
  |some v=>rfl
  |none=>
   dsimp only
   unfold AY Sq
   rw[zF (by decide)];rfl
theorem zjr(l:List aI)(hl:l.length<=1000000)(e:Int):∀(n j k:Nat),j+n=l.length->n<k->vf k l (l.length:Int) e (j:Int)=some (HE (gk e (l.drop j) j))
 |n,j,0,_,hk=>by omega
 |0,j,k+1,hj,hk=>by
  unfold vf GK
  rw[zF (by omega),zD,List.drop_eq_nil_of_le (by omega)];rfl
 |n+1,j,k+1,hj,hk=>by
  have aq:j<l.length:=by omega
  unfold vf GK
  rw[zT (by omega),zC,zh aq,Int.toNat_natCast,A4 aq,List.drop_eq_getElem_cons aq,gk]
  by_cases he:l[j].1=e
  ·rw[zT he,zC,if_pos he]
   unfold HE
   rw[zF (by omega)];rfl
  ·rw[zF he,zD,if_neg he]
   dsimp only
   rw[zo (by omega)]
   exact zjr l hl e n (j+1) k (by omega) (by omega)
theorem zy9(l:List aI)(hl:l.length<=1000000)(e:Int):ka l (l.length:Int) e=some (gk e l 0):=by
 unfold ka Se
 have:=zjr l hl e l.length 0 ah (by omega) (by rw[zn];omega)
 rw[show((0:Nat):Int)=0 from rfl,List.drop_zero] at this
 dsimp only
 rw[this,zc]
 unfold HE
 rcases HX e l 0 (Int.le_refl _) with⟨h1,_⟩|⟨h1,_⟩
 ·rw[h1];rfl
 ·rw[zF (by omega)];rfl
theorem aeM(s:bf)(hs:s.2.2.2.1.length<=1000000)(e:Int):sk s e=some (fq s e):=by
 unfold sk V2 fq
 rw[zy9 _ hs,zy9 _ hs,zc,zc]
 rcases HX e s.2.2.2.1 0 (Int.le_refl _) with⟨h1,h2⟩|⟨h1,h2,h3⟩
 ·rw[h1,h2,zT (by decide),zC]
  rcases HX 0 s.2.2.2.1 0 (Int.le_refl _) with⟨g1,g2⟩|⟨g1,g2,g3⟩
  ·rw[g1,g2];rfl
  ·rw[zF (by omega),zD,zl g1 (by omega),g3,Int.sub_zero]
 ·rw[zF (by omega),zD,zD,zl h1 (by omega),h3,Int.sub_zero]
def dP(l:List aI):List Int->bc->bc
 | [],o=>o
 |no::r,o=>dP l r (match dC l no with
  |some v=>dq o no v.2.1
  |none=>o)
def rM(s:bf)(m:bc)(e:Int):bc:=dq (dP m.2.1 s.2.2.1 (cK m.1,[],())) 39 (fq s e)
def I4(s:bf)(m:bc)(f:bE):bc×Bool:=if dv m.1=true then(rM s m f.1,true) else(aX,false)
theorem UI(m:bc)(no:Int)(t:ByteArray):(dq m no t).2.1.length<=m.2.1.length+1:=Uq m no t
theorem Uk(l:List aI):∀(e:List Int) (o:bc),(dP l e o).2.1.length<=o.2.1.length+e.length
 | [],o=>Nat.le_refl _
 |no::r,o=>by
  rw[dP,List.length_cons]
  have h:=Uk l r (match dC l no with
   |some v=>dq o no v.2.1
   |none=>o)
  cases hx:dC l no with
  |some v=>
   rw[hx] at h
   have:=UI o no v.2.1
   dsimp only at h⊢
   omega
  |none=>rw[hx] at h;dsimp only at h⊢;omega
theorem zjj{ρ:Type}(m:bc)(hm:m.2.1.length<=1000000)(fin:bc->Option ρ):∀(l:List Int) (i:Int) (o:bc),o.2.1.length+l.length<=1000000->
 aU (fun i (x:Int) (o:bc) K=>(nb m x).bind fun r2=>(bif r2.2 then((gB o x r2.1).bind fun r3=>K r3) else K o)) fin l i o=fin (dP m.2.1 l o)
 | [],i,o,_=>rfl
 |x::r,i,o,h=>by
  rw[List.length_cons] at h
  rw[aU,al6 m x hm,zc,dP]
  cases hx:dC m.2.1 x with
  |some v=>
   have:=UI o x v.2.1
   dsimp only
   rw[zC,Uv o x _ (by omega),zc]
   exact zjj m hm fin r (i+1) _ (by omega)
  |none=>exact zjj m hm fin r (i+1) o (by omega)
theorem air(s:bf)(m:bc)(f:bE)(hs:cN s)(he:s.2.2.1.length<=300)(hm:dm m):sH s m f=some (I4 s m f):=by
 have qM:=hm.len
 unfold sH WJ I4
 rw[adt m.1 (by rw[zj];exact hm.pW),zc]
 cases hr:dv m.1 with
 |false=>rfl
 |true=>
  rw[if_pos rfl,if_pos rfl,Bool.not_true,zD]
  dsimp only
  have hl:=b7 (0:Int) s.2.2.1 (by rw[zj];omega) (fun i (x:Int) (o:bc) K=>(nb m x).bind fun r2=>(bif r2.2 then((gB o x r2.1).bind fun r3=>K r3) else K o)) (fun o=>some (s,f,aX,o)) (fun k i o=>Sn k s.2.2.1 (s.2.2.1.length:Int) i s m f aX o) (fun k i o=>rfl) (cK m.1,[],())
  have hb:=Uk m.2.1 s.2.2.1 (cK m.1,[],())
  rw[hl,zjj m (by omega) _ _ _ _ (by simp;omega),zc]
  unfold WK
  dsimp only at hb⊢
  rw[al1 s hs.fu,zc,Uv _ _ _ (by rw[List.length_nil] at hb;omega),zc]
  rfl
theorem za2(s:bf)(m:bc)(f:bE)(hm:m.2.1.length<=1000000)(hs:s.2.2.1.length<=1000):∀(n j k:Nat) (o:bc),j+n=s.2.2.1.length->n<k->o.2.1.length+n<=1000000->GH k (j:Int) s m f aX o=some (s,f,aX,dP m.2.1 (s.2.2.1.drop j) o)
 |n,j,0,o,_,hk,_=>by omega
 |0,j,k+1,o,hj,hk,_=>by
  unfold GH Sa
  rw[zF (by omega),zD,List.drop_eq_nil_of_le (by omega)];rfl
 |n+1,j,k+1,o,hj,hk,ho=>by
  have aq:j<s.2.2.1.length:=by omega
  have hw:∀{R:Type} (z:Option R),zd (j:Int) s.2.2.1.length z=z:=fun z=>zh aq
  unfold GH Sa
  rw[zT (by omega),zC,List.drop_eq_getElem_cons aq,dP]
  simp only[hw,Int.toNat_natCast,A4 aq]
  rw[aeR m _ hm,zc]
  rcases HX s.2.2.1[j] m.2.1 0 (Int.le_refl _) with⟨h1,h2⟩|⟨h1,h2,h3⟩
  ·rw[h1,h2,zF (by decide),zD,zo (by omega)]
   exact za2 s m f hm hs n (j+1) k o (by omega) (by omega) (by omega)
  ·rw[h3,zT h1,zC,zl h1 (by omega),Int.sub_zero,Mn o _ _ (by omega),zc,zo (by omega)]
   have:=UI o s.2.2.1[j] (m.2.1.getD (gk s.2.2.1[j] m.2.1 0).toNat ((0:Int),bs [],())).2.1
   exact za2 s m f hm hs n (j+1) k _ (by omega) (by omega) (by omega)
theorem adQ(s:bf)(m:bc)(f:bE)(hs:cN s)(he:s.2.2.1.length<=300)(hm:dm m):si s m f=some (I4 s m f):=by
 have qM:=hm.len
 unfold si VV I4
 rw[z9x m.1 (by rw[zj];exact hm.pW),zc]
 cases hr:dv m.1 with
 |false=>rfl
 |true=>
  rw[Bool.not_true,zD,acu m.1 hr,zc,if_pos rfl]
  dsimp only
  have hl:=za2 s m f (by omega) (by omega) s.2.2.1.length 0 ah (cK m.1,[],()) (by omega) (by rw[zn];omega) (by simp;omega)
  have hb:=Uk m.2.1 s.2.2.1 (cK m.1,[],())
  rw[show((0:Nat):Int)=0 from rfl,List.drop_zero] at hl
  rw[hl,zc]
  unfold VW
  dsimp only at hb⊢
  rw[aeM s hs.fu,zc,Mn _ _ _ (by rw[List.length_nil] at hb;omega),zc]
  rfl
theorem zy1{a:Spec}:∀{l:List aI} {prev:List Int} {i:Int},ey a prev l i=none->∀c∈l,bk a c.2.1=0
 | [],_,_,_,c,hc=>by cases hc
 |x::r,prev,i,h,c,rB=>by
  rw[ey] at h
  by_cases hc:gK a prev x=0
  ·rw[zT hc,zC] at h
   rcases List.mem_cons.1 rB with rfl|rB
   ·unfold gK at hc
    cases h1:decide (c.1<0) with
    |true=>rw[h1] at hc;cases hc
    |false=>
     rw[h1,zD] at hc
     cases h2:decide (16<c.1) with
     |true=>rw[h2] at hc;cases hc
     |false=>
      rw[h2,zD] at hc
      cases h3:decide (c.1∈prev) with
      |true=>rw[h3] at hc;cases hc
      |false=>rw[h3,zD] at hc;exact hc
   ·exact zy1 h c rB
  ·rw[zF hc] at h;cases h
structure s4(s:bf):Prop where
 fJ:(fY s.1).1=0
 act:bg s.1 39=true
 fu:∀c∈s.2.2.2.1,bk (aO s.1 39) c.2.1=0
 zero:(0:Int)∈s.2.2.2.1.map fun c=>c.1
theorem OR{s:bf}(h:(fh s).1=0):s4 s:=by
 unfold fh at h
 by_cases h1:(fY s.1).1=0
 case neg=>rw[zF h1] at h;cases h
 rw[zT h1,Bool.not_true,zD] at h
 cases h2:bg s.1 39 with
 |false=>rw[h2] at h;cases h
 |true=>
  rw[h2,Bool.not_true,zD] at h
  have ne:∀{l:List Int} {prev:List Int} {i:Int} {e:Int×Int},fx s.1 prev l i=some e->e.1≠0:=by
   intro l
   induction l with
   |nil=>intro _ _ _ h;cases h
   |cons x r ih=>
    intro prev i e h
    rw[fx] at h
    by_cases hc:jF s.1 prev x=0
    ·rw[zT hc,zC] at h;exact ih h
    ·rw[zF hc,zD] at h;cases h;exact hc
  have nc:∀{l:List aI} {prev:List Int} {i:Int} {e:Int×Int},ey (aO s.1 39) prev l i=some e->e.1≠0:=by
   intro l
   induction l with
   |nil=>intro _ _ _ h;cases h
   |cons x r ih=>
    intro prev i e h
    rw[ey] at h
    by_cases hc:gK (aO s.1 39) prev x=0
    ·rw[zT hc,zC] at h;exact ih h
    ·rw[zF hc,zD] at h;cases h;exact hc
  cases h3:fx s.1 [] s.2.2.1 0 with
  |some e=>rw[h3] at h;exact absurd h (ne h3)
  |none=>
   rw[h3] at h
   dsimp only at h
   cases h4:ey (aO s.1 39) [] s.2.2.2.1 0 with
   |some e=>rw[h4] at h;exact absurd h (nc h4)
   |none=>
    rw[h4] at h
    dsimp only at h
    by_cases h5:(0:Int)∈s.2.2.2.1.map fun c=>c.1
    ·exact⟨h1,h2,zy1 h4,h5⟩
    ·rw[zF h5] at h;cases h
theorem akZ{s:bf}(h:s4 s)(e:Int):bk (aO s.1 39) (fq s e)=0:=by
 unfold fq
 cases h1:dC s.2.2.2.1 e with
 |some c=>exact h.fu c (List.mem_of_find?_eq_some h1)
 |none=>
  cases h2:dC s.2.2.2.1 0 with
  |some c=>exact h.fu c (List.mem_of_find?_eq_some h2)
  |none=>
   obtain⟨c,hc,h0⟩:=List.mem_map.1 h.zero
   have:=List.find?_eq_none.1 h2 c hc
   exact absurd (zT h0) this
theorem z168(l:List aI):∀(e:List Int) (o:bc) (v:aI),v∈(dP l e o).2.1->v∈o.2.1\/v∈l
 | [],o,v,h=> .inl h
 |no::r,o,v,h=>by
  rw[dP] at h
  rcases z168 l r _ v h with h|h
  ·cases hx:dC l no with
   |none=>rw[hx] at h;exact .inl h
   |some w=>
    rw[hx] at h
    rcases(Ur o no w.2.1 v).1 h with e|⟨h,_⟩
    ·have hw:=List.find?_some hx
     have hw:w.1=no:=by simpa using hw
     right
     rw[e,<-hw]
     exact List.mem_of_find?_eq_some hx
    ·exact .inl h
  ·exact .inr h
theorem zji(l:List aI):∀(e:List Int) (o:bc),jt o.2.1->jt (dP l e o).2.1/\(dP l e o).1=o.1
 | [],o,h=>⟨h,rfl⟩
 |no::r,o,h=>by
  rw[dP]
  cases hx:dC l no with
  |none=>exact zji l r o h
  |some w=>
   obtain⟨h1,h2⟩:=zji l r (dq o no w.2.1) (zkn h no w.2.1)
   exact⟨h1,h2⟩
structure Part(s:zf)(m:bc):Prop where
 head:zy m.1=true->dD m.1=s.2.1
 pW:m.1.size<=1000
 len:m.2.1.length<=200
 ic:∀v∈m.2.1,bg s v.1=true/\bk (aO s v.1) v.2.1=0/\v.2.1.size<=999
theorem Part.ok{s:zf}{m:bc}(h:Part s m):dm m:=⟨by have:=h.pW;omega,by have:=h.len;omega,fun v hv=>by have:=(h.ic v hv).2.2;omega⟩
theorem NZ{s:bf}(hk:s4 s)(ho:cN s)(he:s.2.2.1.length<=300){m:bc}(hm:Part s.1 m)(e:Int)(hr:dv m.1=true):iM s.1 (rM s m e)/\kr (rM s m e)/\dv (rM s m e).1=false:=by
 obtain⟨r1,r2,r3⟩:=aov hr
 obtain⟨b1,b2⟩:=zji m.2.1 s.2.2.1 (cK m.1,[],()) List.Pairwise.nil
 have wV:(rM s m e).1=cK m.1:=b2
 have ok:=(xq s.1).1 hk.fJ
 have hc:=akZ hk e
 have dR:(fq s e).size<=1099511627776:=by
  unfold fq
  split
  ·rename_i c h;exact ho.mJ c (List.mem_of_find?_eq_some h)
  ·split
   ·rename_i c h;exact ho.mJ c (List.mem_of_find?_eq_some h)
   ·exact Nat.zero_le _
 have hf:∀v∈(rM s m e).2.1,bg s.1 v.1=true/\bk (aO s.1 v.1) v.2.1=0/\v.2.1.size<=999:=fun v hv=>by
  rcases(Ur _ _ _ v).1 hv with rfl|⟨hv,_⟩
  ·obtain⟨v1,v2,v3,_,_⟩:=(H6 _ _ dR).1 hc
   have:=IC v1
   exact⟨hk.act,hc,by dsimp only;omega⟩
  ·rcases z168 _ _ _ v hv with hv|hv
   ·cases hv
   ·exact hm.ic v hv
 have aaB:jt (rM s m e).2.1:=zkn b1 39 (fq s e)
 refine⟨⟨hk.fJ,by rw[wV];exact r1,by rw[wV,r2];exact hm.head (Ry hr).1,AL.2 ⟨fun v hv=>⟨(hf v hv).1,(hf v hv).2.1⟩,aaB,fun v hv=>by have:=aoo ok (hf v hv).1;omega⟩⟩,⟨by rw[wV];have:=(mW.1 r1).1;omega,?_,fun v hv=>by have:=(hf v hv).2.2;omega⟩,by rw[wV];exact r3⟩
 have h1:=Uk m.2.1 s.2.2.1 (cK m.1,[],())
 have h2:=UI (dP m.2.1 s.2.2.1 (cK m.1,[],())) 39 (fq s e)
 unfold rM
 dsimp only[List.length_nil] at h1
 omega
theorem z162(s:zf)(b:ByteArray)(hb:b.size<=1099511627776):∀(r:List Int) (a:Nat) (o:List aI),(∀v∈o,bg s v.1=true/\bk (aO s v.1) v.2.1=0/\v.2.1.size<=999)->(∀v∈(gM s b r a o).1,bg s v.1=true/\bk (aO s v.1) v.2.1=0/\v.2.1.size<=999)/\(gM s b r a o).1.length<=o.length+r.length
 | [],a,o,h=>⟨h,Nat.le_refl _⟩
 |no::r,a,o,h=>by
  rw[gM]
  split
  ·exact⟨h,Nat.le_add_right _ _⟩
  ·rename_i hf
   have hf:bg s no=true:=by cases hh:bg s no with
    |true=>rfl
    |false=>exact absurd hh hf
   split
   ·exact⟨h,Nat.le_add_right _ _⟩
   ·rename_i hz
    generalize hg:mP s.1 (aO s no) b (a:Int)=g at hz⊢
    obtain⟨t,z,e⟩:=g
    dsimp only at hz⊢
    have he:e=0:=Classical.byContradiction fun hn=>hz hn
    subst he
    obtain⟨c1,c2,c3,c4,c5,c6⟩:=zy0 hb hg
    have h2:∀v∈o++ [((no,t,()):aI)],bg s v.1=true/\bk (aO s v.1) v.2.1=0/\v.2.1.size<=999:=fun v hv=>by
     rcases List.mem_append.1 hv with hv|hv
     ·exact h v hv
     ·rw[List.mem_singleton.1 hv];exact⟨hf,c2,c5⟩
    obtain⟨i1,i2⟩:=z162 s b hb r z.toNat _ h2
    rw[List.length_append,List.length_singleton] at i2
    exact⟨i1,by rw[List.length_cons];omega⟩
theorem At(s:zf):Part s aX:=⟨fun h=>(by cases h),Nat.zero_le _,Nat.zero_le _,fun v hv=>(by cases hv)⟩
theorem N4(s:zf)(b:ByteArray)(hb:b.size<=1099511627776):Part s (ia s b).1:=by
 unfold ia
 split
 ·exact At s
 cases ht:mK s b with
 |inl e=>exact At s
 |inr q=>
  unfold mK at ht
  split at ht
  ·cases ht
  split at ht
  case isFalse=>cases ht
  rename_i hr
  injection ht with ht
  subst ht
  have h4:=(mW.1 hr.1).1
  show Part s (tf s b (eP s.1 b) _).1
  unfold tf
  split
  ·exact⟨fun _=>hr.2,by dsimp only;omega,Nat.zero_le _,fun v hv=>by cases hv⟩
  ·obtain⟨p1,p2⟩:=z162 s b hb (elems (bm s.1 b (fj s.1)).1 (bm s.1 b (fj s.1)).2.1) (bm s.1 b (fj s.1)).2.2.1.toNat [] (fun v hv=>by cases hv)
   have:=RE (bm s.1 b (fj s.1)).1 (bm s.1 b (fj s.1)).2.1
   rw[List.length_nil] at p2
   exact⟨fun _=>hr.2,by dsimp only;omega,by dsimp only;omega,p1⟩
theorem anY:Bp=some true:=by kernel_rfl
def nw(p:bf)(n:Int)(m:bc)(f:bE):Int×ByteArray:=
 if dv m.1=true then(if n<((ib p.1 (rM p m f.1)).size:Int) then(3,bs []) else(2,ib p.1 (rM p m f.1))) else(3,bs [])
def Ch(p q:bf)(n:Int)(m:bc)(t:bc×bE):Int×ByteArray:=
 if¬t.2.1=0 then nw p n m t.2 else if n<((ib q.1 t.1).size:Int) then nw p n m (5,129,()) else(1,ib q.1 t.1)
def Cg(p q:bf)(n:Int)(d:bc×bE):Int×ByteArray:=if¬d.2.1=0 then nw p n d.1 d.2 else Ch p q n d.1 (nY p.2.1 p.1 q.1 d.1)
def qS(p q:bf)(n:Int)(b:ByteArray):Int×ByteArray:=Cg p q n (ia p.1 b)
structure rO(p q:bf)(n:Int):Prop where
 n1:1<=n
 n2:n<=65535
 rp:(fh p).1=0
 rq:(fh q).1=0
 mp:(cZ p.2.1 p.1 q.1).1=0
 mq:(cZ q.2.1 q.1 p.1).1=0
theorem rO.symm{p q:bf}{n:Int}(h:rO p q n):rO q p n:=⟨h.n1,h.n2,h.rq,h.rp,h.mq,h.mp⟩
theorem eg.symm{p q:bf}(h:eg p q):eg q p:=⟨h.sq,h.sp,h.qm,h.pm,h.L4,h.L3,h.qe,h.pe,h.qml,h.pml,h.ach,h.acg⟩
theorem N3{p q:bf}{n:Int}:(jC p q n).1=0↔rO p q n:=by
 unfold jC
 by_cases h1:n<1
 ·rw[zT h1];exact⟨fun h=>(by cases h),fun h=>by have:=h.n1;omega⟩
 by_cases h2:65535<n
 ·rw[zF h1,zT h2];exact⟨fun h=>(by cases h),fun h=>by have:=h.n2;omega⟩
 rw[zF h1,zF h2,zD,zD]
 by_cases h3:(fh p).1=0
 case neg=>rw[zF h3];exact⟨fun h=>absurd h h3,fun h=>absurd h.rp h3⟩
 rw[zT h3,Bool.not_true,zD]
 by_cases h4:(cZ p.2.1 p.1 q.1).1=0
 case neg=>rw[zF h4];exact⟨fun h=>absurd h h4,fun h=>absurd h.mp h4⟩
 rw[zT h4,Bool.not_true,zD]
 by_cases h5:(fh q).1=0
 case neg=>rw[zF h5];exact⟨fun h=>absurd h h5,fun h=>absurd h.rq h5⟩
 rw[zT h5,Bool.not_true,zD]
 by_cases h6:(cZ q.2.1 q.1 p.1).1=0
 case neg=>rw[zF h6];exact⟨fun h=>absurd h h6,fun h=>absurd h.mq h6⟩
 rw[zT h6]
 exact⟨fun _=>⟨by omega,by omega,h3,h5,h4,h6⟩,fun _=>rfl⟩
theorem ak9{s:zf}{m:bc}(h:iM s m):2<=(ib s m).size:=by
 have ho:=(xq s).1 h.fJ
 have:=(aif (s:=s) ho.1 (m:=m.1) (y:=bs []) h.right).2
 have hz:2<=fj s.1:=by unfold fj;split<;>omega
 unfold ib
 rw[z31,z31]
 omega
theorem Qm{s:zf}{m:bc}(h:iM s m):p7 s m=(ib s m,zu):=by
 unfold p7
 rw[if_pos (RH.2 h)]
theorem Nt{p q:bf}(h:eg p q){m:bc}(hm:dm m)(ht:(nY p.2.1 p.1 q.1 m).2.1=0):iM q.1 (nY p.2.1 p.1 q.1 m).1/\dm (nY p.2.1 p.1 q.1 m).1:=by
 rcases adL p.2.1 p.1 q.1 m with⟨f,hf,e⟩|⟨ys,hd,e⟩
 ·rw[e] at ht;exact absurd ht hf
 ·rw[e];exact⟨hd.out h.pm hm,hd.ok h.pm hm⟩
section
variable {p q:bf} {n:Int} (h:eg p q) (h0:rO p q n)
include h h0
theorem E6{m:bc}(hm:Part p.1 m)(f:bE)(cl:List bf):kc m f p (cl,n,())=some (nw p n m f):=by
 unfold kc W3 nw
 rw[air p m f h.sp h.pe hm.ok,zc]
 unfold I4
 cases hr:dv m.1 with
 |false=>rfl
 |true=>
  obtain⟨b1,b2,_⟩:=NZ (OR h0.rp) h.sp h.pe hm f.1 hr
  have hp:=ak9 b1
  rw[if_pos rfl,if_pos rfl]
  dsimp only
  rw[Bool.not_true,zD,Mm p.1 _ h.sp.fJ b2.ok,zc,Qm b1]
  dsimp only
  rw[zF (fun e=>by rw[e] at hp;exact absurd hp (by decide)),zD]
  by_cases hn:n<((ib p.1 (rM p m f.1)).size:Int)
  ·rw[zT hn,if_pos hn];rfl
  ·rw[zF hn,if_neg hn];rfl
theorem ziy{m:bc}(hm:Part p.1 m)(f:bE)(c:SL)(link:Int)(hl:0<=link/\link<2)(hc:List.getD c.1 link.toNat p5=p)(hn:c.2.1=n):kb c link m f=some (nw p n m f):=by
 unfold kb We nw
 have hc':List.getD c.1 link.toNat ((((0:Int),(0:Int),([]:List Spec),()),(([]:List bj),([]:List aN),()),([]:List Int),([]:List aI),()):bf)=p:=hc
 rw[zl hl.1 hl.2]
 simp only[hc',hn]
 rw[adQ p m f h.sp h.pe hm.ok,zc]
 unfold I4
 cases hr:dv m.1 with
 |false=>rfl
 |true=>
  obtain⟨b1,b2,_⟩:=NZ (OR h0.rp) h.sp h.pe hm f.1 hr
  rw[if_pos rfl,if_pos rfl]
  dsimp only
  rw[Bool.not_true,zD,z182 p.1 _ h.sp.fJ b1 b2,zc]
  by_cases hn:n<((ib p.1 (rM p m f.1)).size:Int)
  ·rw[zT hn,if_pos hn];rfl
  ·rw[zF hn,if_neg hn];rfl
theorem Rb(b:ByteArray)(hb:b.size<=1099511627776)(cl:List bf):((qw p.1 b).bind fun r2=>(bif(!(decide (r2.2.1=(0:Int)))) then((kc r2.1 r2.2 p (cl,n,())).bind fun r3=>some (r3.1,r3.2)) else((qy p.2.1 p.1 q.1 r2.1).bind fun r4=>(bif(!(decide (r4.2.1=(0:Int)))) then((kc r2.1 r4.2 p (cl,n,())).bind fun r5=>some (r5.1,r5.2)) else((nk q.1 r4.1).bind fun r6=>(bif(decide (n<((r6.1).size:Int))) then((kc r2.1 ((5:Int),(129:Int),()) p (cl,n,())).bind fun r7=>some (r7.1,r7.2)) else some ((1:Int),r6.1)))))))=some (qS p q n b):=by
 have mm:=N4 p.1 b hb
 have iA:=mm.ok
 rw[aeQ p.1 b h.sp.fJ hb,zc]
 unfold qS Cg
 by_cases hd:(ia p.1 b).2.1=0
 case neg=>rw[zF hd,Bool.not_false,zC,if_pos hd,E6 h h0 mm,zc]
 rw[zT hd,Bool.not_true,zD,if_neg (fun e=>e hd),acU p.2.1 p.1 q.1 _ h.pm (by have:=h.pml;omega) iA (by have:=mm.len;omega) h.sp.fJ h.sq.fJ,zc]
 unfold Ch
 by_cases ht:(nY p.2.1 p.1 q.1 (ia p.1 b).1).2.1=0
 case neg=>rw[zF ht,Bool.not_false,zC,if_pos ht,E6 h h0 mm,zc]
 obtain⟨t1,t2⟩:=Nt h iA ht
 rw[zT ht,Bool.not_true,zD,if_neg (fun e=>e ht),Mm q.1 _ h.sq.fJ t2,zc,Qm t1]
 dsimp only
 by_cases hn:n<((ib q.1 (nY p.2.1 p.1 q.1 (ia p.1 b).1).1).size:Int)
 ·rw[zT hn,zC,if_pos hn,E6 h h0 mm,zc]
 ·rw[zF hn,zD,if_neg hn]
theorem Ay(b:ByteArray)(hb:b.size<=1099511627776)(c:SL)(link:Int)(hl:0<=link/\link<2)(hc:List.getD c.1 link.toNat p5=p)(hn:c.2.1=n):((qg p.1 b).bind fun r1=>(bif(!(decide (r1.2.1=(0:Int)))) then((kb c link r1.1 r1.2).bind fun r2=>some (r2.1,r2.2)) else((qk p.2.1 p.1 q.1 r1.1).bind fun r3=>(bif(!(decide (r3.2.1=(0:Int)))) then((kb c link r1.1 r3.2).bind fun r4=>some (r4.1,r4.2)) else((m7 q.1 r3.1).bind fun r5=>(bif(decide (n<((r5).size:Int))) then((kb c link r1.1 ((5:Int),(129:Int),())).bind fun r6=>some (r6.1,r6.2)) else some ((1:Int),r5)))))))=some (qS p q n b):=by
 have mm:=N4 p.1 b hb
 have iA:=mm.ok
 rw[adh p.1 b h.sp.fJ hb,zc]
 unfold qS Cg
 by_cases hd:(ia p.1 b).2.1=0
 case neg=>rw[zF hd,Bool.not_false,zC,if_pos hd,ziy h h0 mm _ c link hl hc hn,zc]
 rw[zT hd,Bool.not_true,zD,if_neg (fun e=>e hd),aco p.2.1 p.1 q.1 _ h.pm h.pml iA mm.len h.sp.fJ h.sq.fJ,zc,<-zez]
 unfold Ch
 by_cases ht:(nY p.2.1 p.1 q.1 (ia p.1 b).1).2.1=0
 case neg=>rw[zF ht,Bool.not_false,zC,if_pos ht,ziy h h0 mm _ c link hl hc hn,zc]
 obtain⟨t1,t2⟩:=Nt h iA ht
 rw[zT ht,Bool.not_true,zD,if_neg (fun e=>e ht),z182 q.1 _ h.sq.fJ t1 (zyt t2 t1),zc]
 by_cases Lv:n<((ib q.1 (nY p.2.1 p.1 q.1 (ia p.1 b).1).1).size:Int)
 ·rw[zT Lv,zC,if_pos Lv,ziy h h0 mm _ c link hl hc hn,zc]
 ·rw[zF Lv,zD,if_neg Lv]
end
def nN(p q:bf)(n link:Int)(b:ByteArray):Int×ByteArray:=
 if¬(jC p q n).1=0 then(0,bs []) else if link=0 then qS p q n b else if link=1 then qS q p n b else(0,bs [])
theorem ad0(p q:bf)(n link:Int)(b:ByteArray)(h:eg p q)(hb:b.size<=1099511627776):lU ([p,q],n,()) link b=some (nN p q n link b):=by
 unfold lU W0 nN
 rw[acF p q n h,zc]
 by_cases hc:(jC p q n).1=0
 case neg=>rw[zF hc,if_pos hc];rfl
 have h0:=N3.1 hc
 rw[zT hc,Bool.not_true,zD,if_neg (fun e=>e hc)]
 by_cases l0:link=0
 ·subst l0
  rw[if_pos rfl,zF (by decide),zD,zF (by decide),zD]
  simp only[uN,uO,AJ,HF,HG]
  exact Rb h h0 b hb [p,q]
 ·rw[if_neg l0]
  by_cases l1:link=1
  ·subst l1
   rw[if_pos rfl,zF (by decide),zD,zF (by decide),zD]
   simp only[uN,uO,AK,HF,HG]
   exact Rb h.symm h0.symm b hb [p,q]
  ·rw[if_neg l1]
   by_cases l2:link<0
   ·rw[zT l2];rfl
   ·rw[zF l2,zD,zT (by omega)];rfl
theorem acJ(p q:bf)(n link:Int)(b:ByteArray)(h:eg p q)(hc:(jC p q n).1=0)(hl:link=0\/link=1)(hb:b.size<=1099511627776):ss ([p,q],n,()) link b=some (nN p q n link b):=by
 have h0:=N3.1 hc
 unfold ss Wc nN
 rw[if_neg (fun e=>e hc)]
 rcases hl with rfl|rfl
 ·rw[if_pos rfl]
  simp only[uN,uO,AJ,HF,HG]
  exact Ay h h0 b hb ([p,q],n,()) 0 (by decide) rfl rfl
 ·rw[if_neg (by decide),if_pos rfl]
  simp only[uN,uO,AK,HF,HG]
  exact Ay h.symm h0.symm b hb ([p,q],n,()) 1 (by decide) rfl rfl
theorem ad4(p q:bf)(n:Int)(h:eg p q):su ([p,q],n,())=some (decide ((jC p q n).1=0)):=by
 unfold su Wd
 rw[adV p q n h,zc]
theorem anZ{c:SL}(hc:Wf z156 c):∃p q n,c=([p,q],n,())/\∃g,qn c=some g/\(g=false->eg p q):=by
 obtain⟨p,q,e⟩:=aie hc.1.1
 obtain⟨cl,n,u⟩:=c
 simp only[Prod.mk.injEq] at e
 obtain⟨rfl,_⟩:=e
 obtain⟨g,hg,iA⟩:=aeq (p:=p) (q:=q) hc
 exact⟨p,q,n,rfl,g,hg,iA⟩
theorem gv(c:SL)(link:Int)(b:ByteArray)(hc:Wf z156 c)(hl:Wf (.int .i64) link)(hb:Wf .str b):JE c link b=some true:=by
 obtain⟨p,q,n,rfl,g,hg,iA⟩:=anZ hc
 unfold JE ZC
 rw[anY,zc,Bool.not_true,zD,hg,zc]
 cases g with
 |true=>rfl
 |false=>
  have h:=iA rfl
  rw[zD]
  by_cases hs:(3000:Int)<(b.size:Int)
  ·rw[zT hs];rfl
  rw[zF hs,zD,aeP p q n h,zc,ad0 p q n link b h (by omega),zc,ad4 p q n h,zc]
  by_cases h0:(jC p q n).1=0
  case neg=>
   rw[zF h0,Bool.not_false,zC]
   unfold nN
   rw[if_pos h0];rfl
  rw[zT h0,Bool.not_true,zD]
  by_cases hli:link=0\/link=1
  ·rw[zF (by omega),zD,zF (by omega),zD,acJ p q n link b h h0 hli (by omega),zc]
   simp
  ·have ho:nN p q n link b=(0,bs []):=by
    unfold nN
    rw[if_neg (fun e=>e h0),if_neg (fun e=>hli (.inl e)),if_neg (fun e=>hli (.inr e))]
   rw[ho]
   by_cases l2:link<0
   ·rw[zT l2];rfl
   ·rw[zF l2,zD,zT (by omega)];rfl
end bF

namespace Go.Proofs.YtkgpjibbdpikcaaGreatDoor
noncomputable section
open Go Go.Ref bF
abbrev y0:Go.Ref.Ty:=(.pair (.sl 116 (.pair .str (.pair .str .unit))) .unit)
abbrev y1:Go.Ref.Ty:=(.pair (.sl 96 (.pair (.int .i64) (.pair .str .unit))) .unit)
abbrev y2:Go.Ref.Ty:=(.pair (.sl 90 (.pair (.int .i64) (.pair .str .unit))) .unit)
abbrev y3:Go.Ref.Ty:=(.pair (.int .i64) (.pair (.int .i64) (.pair (.int .i64) .unit)))
abbrev y4:Go.Ref.Ty:=(.pair .str y0)
abbrev y5:Go.Ref.Ty:=(.pair .str y2)
abbrev y6:Go.Ref.Ty:=(.pair (.int .i64) y3)
abbrev y7:Go.Ref.Ty:=(.pair (.int .i64) y4)
abbrev y8:Go.Ref.Ty:=(.pair (.sl 3 (.int .i64)) y1)
abbrev y9:Go.Ref.Ty:=(.pair (.int .i64) y6)
abbrev y10:Go.Ref.Ty:=(.pair (.int .i64) y7)
abbrev y11:Go.Ref.Ty:=(.pair (.sl 87 y9) .unit)
abbrev cm:Go.Ref.Ty:=(.pair (.int .i64) y10)
abbrev y13:Go.Ref.Ty:=(.pair (.int .i64) y11)
abbrev y14:Go.Ref.Ty:=(.pair (.sl 59 cm) .unit)
abbrev aC:Go.Ref.Ty:=(.pair (.int .i64) y13)
abbrev bN:Go.Ref.Ty:=(.pair (.sl 116 (.pair .str (.pair .str .unit))) y14)
abbrev y17:Go.Ref.Ty:=(.pair bN y8)
abbrev cg:Go.Ref.Ty:=(.pair aC y17)
abbrev dK:Go.Ref.Ty:=(.pair (.arr 2 cg) (.pair (.int .i64) .unit))
def HQ:List (Option Ty):=[none,none,some (.int .i64),some (.int .i64),some .bool,some (.int .u8),some (.int .u8),some (.pair (.int .i64) (.pair (.int .i64) (.pair .bool (.pair (.int .u8) .unit)))),some (.pair (.int .i64) (.pair (.int .i64) (.pair .bool (.pair (.int .u8) .unit)))),some .str,some .str,some .str,some (.int .u64),none,none,none,none,none,none,none,none,some (.int .i32),some (.sl 87 y9),some aC,some aC,some (.sl 116 (.pair .str (.pair .str .unit))),some (.sl 59 cm),some bN,some bN,some (.sl 3 (.int .i64)),some (.sl 96 (.pair (.int .i64) (.pair .str .unit))),some cg,some cg,some (.arr 2 cg),some dK,some dK,none,none,some (.int .i64),none,none,none,none,none,none,none,none,some (.sl 90 (.pair (.int .i64) (.pair .str .unit))),some y5,some y5,none,none,none,none,none,none,none,none,some cm,some cm,none,none,none,none,none,none,none,none,none,some (.pair (.int .i64) (.pair (.int .i64) .unit)),some (.pair (.int .i64) (.pair (.int .i64) .unit)),none,none,none,none,none,none,none,none,none,none,none,none,none,none,none,some y9,some y9,none,some (.pair (.int .i64) (.pair .str .unit)),some (.pair (.int .i64) (.pair .str .unit)),none,none,none,none,some (.pair (.int .i64) (.pair .str .unit)),some (.pair (.int .i64) (.pair .str .unit)),none,none,none,none,some (.int .u64),some (.pair (.int .u64) (.pair (.int .u64) .unit)),some (.pair (.int .u64) (.pair (.int .u64) .unit)),none,none,none,none,none,none,none,some (.sl 9 .str),none,none,none,some (.pair .str (.pair .str .unit)),some (.pair .str (.pair .str .unit)),none,none,none,none,none,none,none,some (.sl 24 aC),none,none,none,none,none,none,none,none,none,none,none,none,none,none,none,none,none,none,none,none,some (.sl 5 (.int .u8)),none,none,none,none,none,none,none,none,none,none,none,none,none,none,none,none,none,none,none,none,none,none,none,none,none,none,none,none,none,none,none,none,none,none,none,none,none,none,none,none,some (.sl 38 (.int .i64)),some (.sl 29 (.sl 3 (.int .i64))),none,none,none,none,none,none,none,none,none,none,none,none,none,none,some (.sl 245 (.pair (.int .i64) (.pair .str .unit))),none,none,none,none,none,none,none,none,none,none,some (.arr 8 (.int .u8)),none,none,none,none,none,none,none,none,none,none,none,none,none,none,none,none,none,none,none,none,none,none,none,none,none,none,none,none,none,none,some (.pair (.int .i64) (.pair .str .unit)),some (.pair (.int .i64) (.pair .str .unit)),none,none,some (.int .u64),none,none,none,none,none,none,none,none,none,none,none,none,some (.arr 256 .bool),some (.arr 256 .bool),none,none,none,none,some (.int .u32),none,none,none,none,none,none,none,none,some (.arr 256 (.int .u8)),some (.pair (.int .u8) (.pair (.int .u8) .unit)),some (.pair (.int .u8) (.pair (.int .u8) .unit)),some (.arr 16 (.pair (.int .u8) (.pair (.int .u8) .unit))),none,none,none,none,none,none,none,none,some (.int .u8),some (.int .u8),none,some (.int .i32),some (.int .i32),none,none]
def bts:List Nat:=[0,8,8,8,1,1,1,24,24,16,16,16,8,24,24,8,8,8,8,8,16,4,24,40,40,24,24,48,48,24,24,136,136,272,280,280,8,8,8,0,8,8,0,8,0,8,8,24,40,40,0,8,8,8,8,8,8,8,64,64,8,8,8,8,8,8,8,8,8,16,16,8,0,8,8,0,8,8,8,8,0,8,8,8,0,8,40,40,8,24,24,0,8,8,8,24,24,8,8,8,8,8,16,16,8,8,8,8,8,8,8,24,8,8,8,32,32,8,0,8,0,8,8,8,24,8,8,8,8,8,8,8,8,8,8,8,8,8,8,8,8,8,8,8,8,24,32,32,16,16,0,8,8,8,0,8,8,8,8,0,8,0,8,8,8,8,0,8,0,8,0,8,0,8,8,8,0,8,8,8,8,8,8,8,8,8,24,24,8,8,8,8,8,0,8,8,8,8,0,8,8,8,24,0,8,8,8,8,8,8,8,0,8,8,8,8,8,8,0,8,0,8,8,8,8,0,8,0,8,8,0,8,8,8,8,8,8,8,8,0,8,8,8,8,24,24,8,8,8,8,8,8,8,8,8,0,8,8,8,8,8,256,256,0,8,8,8,4,0,8,8,0,8,8,8,8,256,2,2,32,8,8,8,40,40,0,0,0,1,1,8,4,4,48,48]
def Ax:List Bool:=[false,false,false,false,false,false,false,false,false,false,false,false,false,false,false,true,true,true,false,false,false,false,false,false,false,false,false,false,false,false,false,false,false,false,false,false,false,false,false,false,false,false,false,false,false,false,false,false,false,false,false,false,false,false,false,false,false,false,false,false,false,false,false,false,false,false,false,false,false,false,false,false,false,false,false,false,false,false,false,false,false,false,false,false,false,false,false,false,false,false,false,false,false,false,false,false,false,false,false,false,false,false,false,false,false,false,false,false,false,false,false,false,false,false,false,false,false,false,false,false,false,false,false,false,false,false,false,false,false,false,false,false,false,false,false,false,false,false,false,false,false,false,false,false,true,false,false,false,false,false,false,false,false,false,false,false,false,false,false,false,false,false,false,false,false,false,false,false,false,false,false,false,false,false,false,false,false,false,false,false,false,false,false,false,false,false,false,false,false,false,false,false,false,false,false,false,false,false,false,false,false,false,false,false,false,false,false,false,false,false,false,false,false,false,false,false,false,true,false,false,false,false,false,false,false,false,false,false,false,false,false,false,false,false,false,false,false,false,false,false,false,false,false,false,false,false,false,false,false,false,false,false,false,false,false,false,false,false,false,false,false,false,false,false,false,false,true,false,false,false,false,false,false,false,false,false,false,false,false,false,false,false,false,false,false,false,false,false,false,false,false,false,false,false,false]
def TS:List (TypeId×TypeId×TypeId):=[(125,9,4),(253,3,4)]
def bG:oR:=⟨HQ,bts,Ax,TS⟩
theorem zz6:bG.ok Tryz.prog=true:=by kernel_rfl
theorem ek:∀a b c d,ar Tryz.prog (bG.env a b c d):=oR.lk zz6
abbrev e0(ps:List Ty):Env:=bG.env (fun _=>[]) (fun _=>[]) [] ps
abbrev uS(n:Nat)(l:List (List SV)):List (List SV):=Nat.rec (motive:=fun _=>List (List SV)) l (fun _ r=>[.undef]::r) n
abbrev nS(n:Nat)(l:List (Option bB)):List (Option bB):=Nat.rec (motive:=fun _=>List (Option bB)) l (fun _ r=>none::r) n
def Tx:ai:=ai.none
theorem o0:aJ Tryz.prog Tx:= .none (by kernel_rfl)
variable (R:Type) (kk k:Nat) (K:KF R) (J:KX R)
def YO:Env:=bG.env (fun i=>bif Nat.beq i 3 then [0,3,4] else []) (fun i=>bif Nat.beq i 3 then [3] else []) [] [(.sl 9 .str)]
def Wi(a:(List ByteArray))(b:aK)(c:Int):Option R:=aw (ev YO (Tx R) kk (sub [1,1,0,1,0,0] (cd Tryz.f65))) [0,3,4] [3] k ⟨[.aj (.sl 9 .str) a []]::uS 2 ([.aj (.sl 116 (.pair .str (.pair .str .unit))) b [[]]]::[tI c]::uS 21 []),nS 27 []⟩ J
def zgq(a:aK):State:=⟨uS 3 ([.aj (.sl 116 (.pair .str (.pair .str .unit))) a [[]]]::uS 22 []),nS 27 []⟩
def Pv:KX R:=(zk 0 (aF YO (Tx R) kk (sub [1,1,1] (cd Tryz.f65)) (aD YO Tryz.f65.results.toList none K)))
theorem amH(a:(List ByteArray))(b:aK)(c:Int):Wi R kk (k+1) J a b c=
 Dw a b c (Wi R kk k J) (fun a0=>J (.exit 0) (zgq a0)):=by kernel_rfl
theorem afS(a:aK):Pv R kk K (.exit 0) (zgq a)=
 Dx a (fun a0=>K [.aj (.sl 116 (.pair .str (.pair .str .unit))) a0 []] none):=by kernel_rfl
theorem ajn{kk:Nat}(hF:kk=ah)(fF:(List ByteArray))(t3:aK)(t4:Int):Wi R kk k J fF t3 t4=(Wj k fF t3 t4).bind fun e=>J (.exit 0) (zgq e):=by
 induction k generalizing fF t3 t4 with
 |zero=>rfl
 |succ k ih=>
  rw[amH]
  simp only[Wj,Dw,ih,ay]
def Tb1:ai:=Tx.add 65 [(.sl 9 .str)] (cC (.sl 9 .str) sw (fun _ r K=>K [.aj (.sl 116 (.pair .str (.pair .str .unit))) r []] none))
theorem o1:aJ Tryz.prog Tb1:=cD YO Tryz.f65 (fun R kk x0 K=>Dv x0 (Wi R kk kk (Pv R kk K))) o0 (ek _ _ _ _) Tryz.func65 (by kernel_rfl) rfl (fun _ _ _ _ _ _ h=>h _ _) (fun _ _ _ _=>by kernel_rfl) fun R kk e x0 K=>by
 simp only[sw,Dv,Dx,ajn (hF:=e),afS,ay,<-e]
def aoH:Env:=e0 []
def Tz:ai:=Tb1.add 129 [] (Cj Bh (fun _ r K=>K [.aj (.sl 3 (.int .i64)) r [[]]] none))
theorem o2:aJ Tryz.prog Tz:=HP aoH Tryz.f129 (fun R kk K=>zzk (fun a0=>K [.aj (.sl 3 (.int .i64)) a0 [[]]] none)) o1 (ek _ _ _ _) Tryz.func129 (by kernel_rfl) rfl (fun _ _ _ _ _ _ h=>h _ _) (fun _ _ _=>by kernel_rfl) fun R kk e K=>by
 simp only[Bh,zzk,ay]
def YN:Env:={bG.env (fun i=>bif Nat.beq i 4 then [1,2,3] else []) (fun i=>bif Nat.beq i 4 then [1] else []) [] [] with mv:=[31]}
def Wg(a:cz)(b:(List Int))(c:Int):Option R:=aw (ev YN (Tz R) kk (sub [1,1,1,0,1,0,0] (cd Tryz.f66))) [1,2,3] [1] k ⟨uS 1 ([.aj (.sl 59 cm) a [[]]]::[.aj (.sl 3 (.int .i64)) b [[]]]::[tI c]::uS 28 []),nS 33 []⟩ J
def zgp(a:cz):State:=⟨uS 1 ([.aj (.sl 59 cm) a [[]]]::uS 30 []),nS 33 []⟩
def Pu:KX R:=(zk 0 (aF YN (Tz R) kk (sub [1,1,1,1] (cd Tryz.f66)) (aD YN Tryz.f66.results.toList none K)))
theorem amG(a:cz)(b:(List Int))(c:Int):Wg R kk (k+1) J a b c=
 Dt a b c (Wg R kk k J) (fun a0=>J (.exit 0) (zgp a0)):=by kernel_rfl
theorem afR(a:cz):Pu R kk K (.exit 0) (zgp a)=
 Du a (fun a0=>K [.aj (.sl 59 cm) a0 [[]]] none):=by kernel_rfl
theorem ajm{kk:Nat}(hF:kk=ah)(t1:cz)(t2:(List Int))(t3:Int):Wg R kk k J t1 t2 t3=(Wh k t1 t2 t3).bind fun e=>J (.exit 0) (zgp e):=by
 induction k generalizing t1 t2 t3 with
 |zero=>rfl
 |succ k ih=>
  rw[amG]
  simp only[Wh,Dt,ih,ay]
def TA:ai:=Tz.add 66 [] (Cj vq (fun _ r K=>K [.aj (.sl 59 cm) r [[]]] none))
theorem o3:aJ Tryz.prog TA:=HP YN Tryz.f66 (fun R kk K=>Ds (Wg R kk kk (Pu R kk K))) o2 ((ek _ _ _ _).mv _) Tryz.func66 (by kernel_rfl) rfl (fun _ _ _ _ _ _ h=>h _ _) (fun _ _ _=>by kernel_rfl) fun R kk e K=>by
 simp only[vq,Ds,Du,ajm (hF:=e),afR,ay,<-e]
def YB:Env:=bG.env (fun i=>bif Nat.beq i 3 then [0,3,4] else []) (fun i=>bif Nat.beq i 3 then [3] else []) [] [(.sl 116 (.pair .str (.pair .str .unit)))]
def Vj(a b:aK)(c:Int):Option R:=aw (ev YB (TA R) kk (sub [1,1,0,1,0,0] (cd Tryz.f67))) [0,3,4] [3] k ⟨[.aj (.sl 116 (.pair .str (.pair .str .unit))) a []]::uS 2 ([.aj (.sl 116 (.pair .str (.pair .str .unit))) b [[]]]::[tI c]::uS 22 []),nS 28 []⟩ J
def zfp(a:aK):State:=⟨uS 3 ([.aj (.sl 116 (.pair .str (.pair .str .unit))) a [[]]]::uS 23 []),nS 28 []⟩
def Pc:KX R:=(zk 0 (aF YB (TA R) kk (sub [1,1,1] (cd Tryz.f67)) (aD YB Tryz.f67.results.toList none K)))
theorem amk(a b:aK)(c:Int):Vj R kk (k+1) J a b c=
 Cz a b c (Vj R kk k J) (fun a0=>J (.exit 0) (zfp a0)):=by kernel_rfl
theorem afa(a:aK):Pc R kk K (.exit 0) (zfp a)=
 z107 a (fun a0=>K [.aj (.sl 116 (.pair .str (.pair .str .unit))) a0 []] none):=by kernel_rfl
theorem aiQ{kk:Nat}(hF:kk=ah)(fF t3:aK)(t4:Int):Vj R kk k J fF t3 t4=(Vk k fF t3 t4).bind fun e=>J (.exit 0) (zfp e):=by
 induction k generalizing fF t3 t4 with
 |zero=>rfl
 |succ k ih=>
  rw[amk]
  simp only[Vk,Cz,ih,ay]
def Tb4:ai:=TA.add 67 [(.sl 116 (.pair .str (.pair .str .unit)))] (cC (.sl 116 (.pair .str (.pair .str .unit))) sc (fun _ r K=>K [.aj (.sl 116 (.pair .str (.pair .str .unit))) r []] none))
theorem o4:aJ Tryz.prog Tb4:=cD YB Tryz.f67 (fun R kk x0 K=>z105 x0 (Vj R kk kk (Pc R kk K))) o3 (ek _ _ _ _) Tryz.func67 (by kernel_rfl) rfl (fun _ _ _ _ _ _ h=>h _ _) (fun _ _ _ _=>by kernel_rfl) fun R kk e x0 K=>by
 simp only[sc,z105,z107,aiQ (hF:=e),afa,ay,<-e]
def aoI:Env:=e0 []
def TB:ai:=Tb4.add 130 [] (Cj Bi (fun _ r K=>K [.aj (.sl 29 (.sl 3 (.int .i64))) r [[]]] none))
theorem o5:aJ Tryz.prog TB:=HP aoI Tryz.f130 (fun R kk K=>zzo (fun a0=>K [.aj (.sl 29 (.sl 3 (.int .i64))) a0 [[]]] none)) o4 (ek _ _ _ _) Tryz.func130 (by kernel_rfl) rfl (fun _ _ _ _ _ _ h=>h _ _) (fun _ _ _=>by kernel_rfl) fun R kk e K=>by
 simp only[Bi,zzo,ay]
def Yq:Env:=bG.env (fun i=>bif Nat.beq i 4 then [0,2,3,4,5] else []) (fun i=>bif Nat.beq i 4 then [2,3] else []) [2] [(.int .i64)]
def UT(a:Int)(b:wE)(c:Int)(d e:ag):Option R:=aw (ev Yq (TB R) kk (sub [1,1,1,0,1,0,0] (cd Tryz.f68))) [0,2,3,4,5] [2,3] k ⟨[tI a]::uS 1 ([.ptr 3 aC []]::[.ptr 4 aC []]::[.aj (.sl 29 (.sl 3 (.int .i64))) b [[]]]::[tI c]::uS 52 []),nS 3 ((some ⟨aC,d,[[2]]⟩)::(some ⟨aC,e,[[2]]⟩)::nS 54 [])⟩ J
def zfc(a b:ag):State:=⟨uS 2 ([.ptr 3 aC []]::[.ptr 4 aC []]::uS 54 []),nS 3 ((some ⟨aC,a,[[2]]⟩)::(some ⟨aC,b,[[2]]⟩)::nS 54 [])⟩
def O7:KX R:=(zk 0 (aF Yq (TB R) kk (sub [1,1,1,1] (cd Tryz.f68)) (aD Yq Tryz.f68.results.toList none K)))
theorem amb(a:Int)(b:wE)(c:Int)(d e:ag):UT R kk (k+1) J a b c d e=
 zzm a b c d e (UT R kk k J) (fun a0 a1=>J (.exit 0) (zfc a0 a1)):=by kernel_rfl
theorem aeX(a b:ag):O7 R kk K (.exit 0) (zfc a b)=
 zzn a b (fun a0=>K [.aj aC a0 [[2]]] none):=by kernel_rfl
theorem aiH{kk:Nat}(hF:kk=ah)(lA:Int)(t4:wE)(t5:Int)(cA cU:ag):UT R kk k J lA t4 t5 cA cU=(UU k lA t4 t5 cA cU).bind fun e=>J (.exit 0) (zfc e.1 e.2):=by
 induction k generalizing lA t4 t5 cA cU with
 |zero=>rfl
 |succ k ih=>
  rw[amb]
  simp only[UU,zzm,ih,ay]
def Tb6:ai:=TB.add 68 [(.int .i64)] (cC (.int .i64) vn (fun _ r K=>K [.aj aC r [[2]]] none))
theorem o6:aJ Tryz.prog Tb6:=cD Yq Tryz.f68 (fun R kk x0 K=>zzl x0 (UT R kk kk (O7 R kk K))) o5 (ek _ _ _ _) Tryz.func68 (by kernel_rfl) rfl (fun _ _ _ _ _ _ h=>h _ _) (fun _ _ _ _=>by kernel_rfl) fun R kk e x0 K=>by
 simp only[vn,zzl,zzn,aiH (hF:=e),aeX,ay,<-e]
def aoZ:Env:=e0 [.str,.str,.str]
def Tb7:ai:=Tb6.add 69 [.str,.str,.str] (gu .str .str .str vp (fun _ r K=>K [.aj (.sl 96 (.pair (.int .i64) (.pair .str .unit))) r [[]]] none))
theorem o7:aJ Tryz.prog Tb7:=gx aoZ Tryz.f69 (fun R kk x0 x1 x2 K=>Dr x0 x1 x2 (fun a0=>K [.aj (.sl 96 (.pair (.int .i64) (.pair .str .unit))) a0 [[]]] none)) o6 (ek _ _ _ _) Tryz.func69 (by kernel_rfl) rfl (fun _ _ _ _ _ _ h=>h _ _) (fun _ _ _ _ _ _=>by kernel_rfl) fun R kk e x0 x1 x2 K=>by
 simp only[vp,Dr,ay]
def aoU:Env:={bG.env (fun _=>[]) (fun _=>[]) [0] [] with sh:=[47,59]}
def Tb8:ai:=Tb7.add 26 [] (Cj Bl (fun _ r K=>K [.aj dK r [[0,((1:Int)).toNat,3],[0,((1:Int)).toNat,2],[0,((1:Int)).toNat,0,2],[0,((0:Int)).toNat,3],[0,((0:Int)).toNat,0,2]]] none))
theorem o8:aJ Tryz.prog Tb8:=HP aoU Tryz.f26 (fun R kk K=>Dl (fun a0=>K [.aj dK a0 [[0,((1:Int)).toNat,3],[0,((1:Int)).toNat,2],[0,((1:Int)).toNat,0,2],[0,((0:Int)).toNat,3],[0,((0:Int)).toNat,0,2]]] none)) o7 ((ek _ _ _ _).sh _) Tryz.func26 (by kernel_rfl) rfl (fun _ _ _ _ _ _ h=>h _ _) (fun _ _ _=>by kernel_rfl) fun R kk e K=>by
 simp only[Bl,Dl,ay]
def Jn:Env:=e0 [(.int .i64)]
def Tb9:ai:=Tb8.add 211 [(.int .i64)] (cC (.int .i64) x5 (fun _ r K=>K [tI r] none))
theorem o9:aJ Tryz.prog Tb9:=cD Jn Tryz.f211 (fun R kk x0 K=>Y2 x0 (fun a0=>K [tI a0] none)) o8 (ek _ _ _ _) Tryz.func211 (by kernel_rfl) rfl (fun _ _ _ _ _ _ h=>h _ _) (fun _ _ _ _=>by kernel_rfl) fun R kk e x0 K=>by
 simp only[x5,Y2,ay]
def Jj:Env:=e0 [(.int .i64)]
def J3:ai:=Tb9.add 186 [(.int .i64)] (cC (.int .i64) Bm (fun _ r K=>K [tB r] none))
theorem o10:aJ Tryz.prog J3:=cD Jj Tryz.f186 (fun R kk x0 K=>YT x0 (fun a0=>K [tB a0] none)) o9 (ek _ _ _ _) Tryz.func186 (by kernel_rfl) rfl (fun _ _ _ _ _ _ h=>h _ _) (fun _ _ _ _=>by kernel_rfl) fun R kk e x0 K=>by
 simp only[Bm,YT,ay]
def z212:Env:=e0 [(.int .i64)]
def vH:ai:=J3.add 202 [(.int .i64)] (cC (.int .i64) jl (fun _ r K=>K [tI r] none))
theorem o11:aJ Tryz.prog vH:=cD z212 Tryz.f202 (fun R kk x0 K=>Sm x0 (fun a0=>K [tI a0] none)) o10 (ek _ _ _ _) Tryz.func202 (by kernel_rfl) rfl (fun _ _ _ _ _ _ h=>h _ _) (fun _ _ _ _=>by kernel_rfl) fun R kk e x0 K=>by
 simp only[jl,Sm,ay]
def YZ:Env:=bG.env (fun i=>bif Nat.beq i 3 then [3,5,6] else []) (fun i=>bif Nat.beq i 3 then [3] else []) [] [(.int .i64)]
def WE(a b c:Int):Option R:=aw (ev YZ (vH R) kk (sub [1,1,0,1,0,0] (cd Tryz.f187))) [3,5,6] [3] k ⟨uS 3 ([tI a]::uS 1 ([tI b]::[tI c]::uS 6 [])),nS 14 []⟩ J
def zh1(a:Int):State:=⟨uS 3 ([tI a]::uS 9 []),nS 14 []⟩
def Pz:KX R:=(zk 0 (aF YZ (vH R) kk (sub [1,1,1] (cd Tryz.f187)) (aD YZ Tryz.f187.results.toList none K)))
theorem amP(a b c:Int):WE R kk (k+1) J a b c=
 DR a b c (WE R kk k J) (fun a0=>J (.exit 0) (zh1 a0)):=by kernel_rfl
theorem af2(a:Int):Pz R kk K (.exit 0) (zh1 a)=
 DS a (fun a0=>K [tI a0] none):=by kernel_rfl
theorem ajw{kk:Nat}(hF:kk=ah)(t3 t5 t6:Int):WE R kk k J t3 t5 t6=(WG k t3 t5 t6).bind fun e=>J (.exit 0) (zh1 e):=by
 induction k generalizing t3 t5 t6 with
 |zero=>rfl
 |succ k ih=>
  rw[amP]
  simp only[WG,DR,ih,ay]
def J4:ai:=vH.add 187 [(.int .i64)] (cC (.int .i64) qq (fun _ r K=>K [tI r] none))
theorem o12:aJ Tryz.prog J4:=cD YZ Tryz.f187 (fun R kk x0 K=>DQ x0 (WE R kk kk (Pz R kk K))) o11 (ek _ _ _ _) Tryz.func187 (by kernel_rfl) rfl (fun _ _ _ _ _ _ h=>h _ _) (fun _ _ _ _=>by kernel_rfl) fun R kk e x0 K=>by
 simp only[qq,DQ,DS,ajw (hF:=e),af2,ay,<-e]
def apn:Env:=e0 [y9]
def vI:ai:=J4.add 131 [y9] (cC y9 kW (fun _ r K=>K [tI r] none))
theorem o13:aJ Tryz.prog vI:=cD apn Tryz.f131 (fun R kk x0 K=>Xn x0 (fun a0=>K [tI a0] none)) o12 (ek _ _ _ _) Tryz.func131 (by kernel_rfl) rfl (fun _ _ _ _ _ _ h=>h _ _) (fun _ _ _ _=>by kernel_rfl) fun R kk e x0 K=>by
 simp only[kW,Xn,ay]
def Y6:Env:=bG.env (fun i=>bif Nat.beq i 6 then [1,26,27,28] else []) (fun i=>bif Nat.beq i 6 then [2,3] else []) [] [aC]
def Xa(a:ga)(b c:Int)(d:ag):Option R:=aw (ev Y6 (vI R) kk (sub [1,1,0,1,0,0] (cd Tryz.f72))) [1,26,27,28] [2,3] k ⟨uS 1 ([.ptr 2 aC []]::uS 24 ([.aj (.sl 87 y9) a []]::[tI b]::[tI c]::uS 26 [])),nS 2 ((some ⟨aC,d,[]⟩)::nS 53 [])⟩ J
def zhg(a b:Int):State:=⟨uS 2 ([tI a]::[tI b]::uS 51 []),nS 56 []⟩
def zhh:State:=⟨uS 55 [],nS 56 []⟩
def Ea:KX R:=(zk 1 (aF Y6 (vI R) kk (sub [1,1,1] (cd Tryz.f72)) (aD Y6 Tryz.f72.results.toList none K)))
theorem amZ(a:ga)(b c:Int)(d:ag):Xa R kk (k+1) J a b c d=
 Ss a b c d (fun a0 a1=>J .ret (zhg a0 a1)) (Xa R kk k J) (J (.exit 1) (zhh)):=by kernel_rfl
theorem agh(a b:Int):Ea R kk K .ret (zhg a b)=
 Xb a b (fun a0 a1=>K [tI a0,tI a1] none):=by kernel_rfl
theorem agi:Ea R kk K (.exit 1) (zhh)=
 Xc (fun a0 a1=>K [tI a0,tI a1] none):=by kernel_rfl
theorem ajG{kk:Nat}(hF:kk=ah)(t26:ga)(t27 t28:Int)(cT:ag):Xa R kk k J t26 t27 t28 cT=(AZ k t26 t27 t28 cT).bind fun e=>(Sum.elim (fun(we:(Int×Int))=>J .ret (zhg we.1 we.2)) (fun(we:Unit)=>J (.exit 1) (zhh)) e):=by
 induction k generalizing t26 t27 t28 cT with
 |zero=>rfl
 |succ k ih=>
  rw[amZ]
  simp only[AZ,Ss,ih,ay]
def vJ:ai:=vI.add 72 [aC] (cC aC lX (fun _ r K=>K [tI r.1,tI r.2] none))
theorem o14:aJ Tryz.prog vJ:=cD Y6 Tryz.f72 (fun R kk x0 K=>Im x0 (fun a0 a1=>K [tI a0,tI a1] none) (fun a0 a1 a2 a3=>Xa R kk kk (Ea R kk K) a0 a1 a2 a3)) o13 (ek _ _ _ _) Tryz.func72 (by kernel_rfl) rfl (fun _ _ _ _ _ _ h=>h _ _) (fun _ _ _ _=>by kernel_rfl) fun R kk e x0 K=>by
 simp only[lX,acR,Xb,Xc,ajG (hF:=e),agh,agi,ay,<-e]
def Y7:Env:=bG.env (fun i=>bif Nat.beq i 2 then [1,4,9,10,11] else []) (fun i=>bif Nat.beq i 2 then [4,5] else []) [4] [aC,(.int .i64)]
def Xd(a:Int)(b:ga)(c d:Int)(e:ap):Option R:=aw (ev Y7 (vJ R) kk (sub [1,0,1,0,0] (cd Tryz.f73))) [1,4,9,10,11] [4,5] k ⟨uS 1 ([tI a]::uS 2 ([.ptr 5 y9 []]::uS 4 ([.aj (.sl 87 y9) b []]::[tI c]::[tI d]::uS 10 []))),nS 5 ((some ⟨y9,e,[]⟩)::nS 17 [])⟩ J
def zhi(a:Bool)(b:ap):State:=⟨uS 4 ([.ptr 5 y9 []]::[tB a]::uS 16 []),nS 5 ((some ⟨y9,b,[]⟩)::nS 17 [])⟩
def zhj(a:ap):State:=⟨uS 4 ([.ptr 5 y9 []]::uS 17 []),nS 5 ((some ⟨y9,a,[]⟩)::nS 17 [])⟩
def Eb:KX R:=(zk 0 (aF Y7 (vJ R) kk (sub [1,1] (cd Tryz.f73)) (aD Y7 Tryz.f73.results.toList none K)))
theorem am0(a:Int)(b:ga)(c d:Int)(e:ap):Xd R kk (k+1) J a b c d e=
 Ec a b c d e (fun a0 a1=>J .ret (zhi a0 a1)) (Xd R kk k J) (fun a0=>J (.exit 0) (zhj a0)):=by kernel_rfl
theorem agj(a:Bool)(b:ap):Eb R kk K .ret (zhi a b)=
 Ed a b (fun a0 a1=>K [.aj y9 a0 [],tB a1] none):=by kernel_rfl
theorem agk(a:ap):Eb R kk K (.exit 0) (zhj a)=
 Ee a (fun a0 a1=>K [.aj y9 a0 [],tB a1] none):=by kernel_rfl
theorem ajH{kk:Nat}(hF:kk=ah)(cB:Int)(t9:ga)(t10 t11:Int)(bQ:ap):Xd R kk k J cB t9 t10 t11 bQ=(St k cB t9 t10 t11 bQ).bind fun e=>(Sum.elim (fun(we:(Bool×ap))=>J .ret (zhi we.1 we.2)) (fun(we:ap)=>J (.exit 0) (zhj we)) e):=by
 induction k generalizing cB t9 t10 t11 bQ with
 |zero=>rfl
 |succ k ih=>
  rw[am0]
  simp only[St,Ec,ih,ay]
def vK:ai:=vJ.add 73 [aC,(.int .i64)] (cP aC (.int .i64) fb (fun _ r K=>K [.aj y9 r.1 [],tB r.2] none))
theorem o15:aJ Tryz.prog vK:=cR Y7 Tryz.f73 (fun R kk x0 x1 K=>Xe x0 x1 (Xd R kk kk (Eb R kk K))) o14 (ek _ _ _ _) Tryz.func73 (by kernel_rfl) rfl (fun _ _ _ _ _ _ h=>h _ _) (fun _ _ _ _ _=>by kernel_rfl) fun R kk e x0 x1 K=>by
 simp only[fb,Xe,Ed,Ee,ajH (hF:=e),agj,agk,ay,<-e]
def Za:Env:=bG.env (fun i=>bif Nat.beq i 2 then [0,1,7,8] else []) (fun i=>bif Nat.beq i 2 then [4] else []) [] [(.sl 3 (.int .i64)),(.int .i64)]
def Xl(a:(List Int))(b c d:Int):Option R:=aw (ev Za (vK R) kk (sub [1,0,1,0,0] (cd Tryz.f188))) [0,1,7,8] [4] k ⟨[.aj (.sl 3 (.int .i64)) a []]::[tI b]::uS 5 ([tI c]::[tI d]::uS 10 []),nS 20 []⟩ J
def zho(a:Int):State:=⟨uS 4 ([tI a]::uS 14 []),nS 20 []⟩
def zhp:State:=⟨uS 19 [],nS 20 []⟩
def Em:KX R:=(zk 0 (aF Za (vK R) kk (sub [1,1] (cd Tryz.f188)) (aD Za Tryz.f188.results.toList none K)))
theorem am3(a:(List Int))(b c d:Int):Xl R kk (k+1) J a b c d=
 En a b c d (fun a0=>J .ret (zho a0)) (Xl R kk k J) (J (.exit 0) (zhp)):=by kernel_rfl
theorem agp(a:Int):Em R kk K .ret (zho a)=
 Eo a (fun a0=>K [tI a0] none):=by kernel_rfl
theorem agq:Em R kk K (.exit 0) (zhp)=
 Ep (fun a0=>K [tI a0] none):=by kernel_rfl
theorem ajK{kk:Nat}(hF:kk=ah)(nv:(List Int))(a_1 t7 t8:Int):Xl R kk k J nv a_1 t7 t8=(Sw k nv a_1 t7 t8).bind fun e=>(Sum.elim (fun(we:Int)=>J .ret (zho we)) (fun(we:Unit)=>J (.exit 0) (zhp)) e):=by
 induction k generalizing nv a_1 t7 t8 with
 |zero=>rfl
 |succ k ih=>
  rw[am3]
  simp only[Sw,En,ih,ay]
def J5:ai:=vK.add 188 [(.sl 3 (.int .i64)),(.int .i64)] (cP (.sl 3 (.int .i64)) (.int .i64) vv (fun _ r K=>K [tI r] none))
theorem o16:aJ Tryz.prog J5:=cR Za Tryz.f188 (fun R kk x0 x1 K=>Xm x0 x1 (Xl R kk kk (Em R kk K))) o15 (ek _ _ _ _) Tryz.func188 (by kernel_rfl) rfl (fun _ _ _ _ _ _ h=>h _ _) (fun _ _ _ _ _=>by kernel_rfl) fun R kk e x0 x1 K=>by
 simp only[vv,Xm,Eo,Ep,ajK (hF:=e),agp,agq,ay,<-e]
def apm:Env:=e0 [(.sl 3 (.int .i64)),(.int .i64)]
def J6:ai:=J5.add 132 [(.sl 3 (.int .i64)),(.int .i64)] (cP (.sl 3 (.int .i64)) (.int .i64) sP (fun _ r K=>K [tB r] none))
theorem o17:aJ Tryz.prog J6:=cR apm Tryz.f132 (fun R kk x0 x1 K=>Xg x0 x1 (fun a0=>K [tB a0] none)) o16 (ek _ _ _ _) Tryz.func132 (by kernel_rfl) rfl (fun _ _ _ _ _ _ h=>h _ _) (fun _ _ _ _ _=>by kernel_rfl) fun R kk e x0 x1 K=>by
 simp only[sP,Xg,ay]
def apd:Env:=e0 [cg,(.int .i64)]
def J7:ai:=J6.add 74 [cg,(.int .i64)] (cP cg (.int .i64) sL (fun _ r K=>K [tI r] none))
theorem o18:aJ Tryz.prog J7:=cR apd Tryz.f74 (fun R kk x0 x1 K=>WX x0 x1 (fun a0=>K [tI a0] none)) o17 (ek _ _ _ _) Tryz.func74 (by kernel_rfl) rfl (fun _ _ _ _ _ _ h=>h _ _) (fun _ _ _ _ _=>by kernel_rfl) fun R kk e x0 x1 K=>by
 simp only[sL,WX,ay]
def apc:Env:=e0 [(.pair (.int .i64) (.pair .str .unit)),.unit]
def vL:ai:=J7.add 134 [(.pair (.int .i64) (.pair .str .unit)),.unit] (pz (.pair (.int .i64) (.pair .str .unit)) (.pair (.int .i64) (.pair .str .unit)) (.pair (.int .i64) (.pair .str .unit)) [] qu (fun _ r K=>K [tB r.1] (some ⟨(.pair (.int .i64) (.pair .str .unit)),r.2,[]⟩)))
theorem o19:aJ Tryz.prog vL:=sz apc Tryz.f134 (fun R kk x0 x1 K=>WW x0 x1 (fun a0 a1=>K [tB a0] (some ⟨(.pair (.int .i64) (.pair .str .unit)),a1,[]⟩))) o18 (ek _ _ _ _) Tryz.func134 (by kernel_rfl) rfl (fun _ _ _ _ _ _ h=>h _ _) (fun _ _ _ _ _=>by kernel_rfl) fun R kk e x0 x1 K=>by
 simp only[qu,WW,ay]
def Y8:Env:=bG.env (fun i=>bif Nat.beq i 2 then [0,1,7,8] else []) (fun i=>bif Nat.beq i 2 then [4] else []) [] [(.sl 96 (.pair (.int .i64) (.pair .str .unit))),.unit]
def Xh(a:ak)(b c:Int)(d:cn):Option R:=aw (ev Y8 (vL R) kk (sub [1,0,1,0,0] (cd Tryz.f189))) [0,1,7,8] [4] k ⟨[.aj (.sl 96 (.pair (.int .i64) (.pair .str .unit))) a []]::[.ptr 0 (.aZ (.ru 134) (.pair (.int .i64) (.pair .str .unit)) .unit) []]::uS 5 ([tI b]::[tI c]::uS 10 []),(some ⟨(.pair (.int .i64) (.pair .str .unit)),d,[]⟩)::nS 19 []⟩ J
def zhk(a:Int)(b:cn):State:=⟨uS 4 ([tI a]::uS 14 []),(some ⟨(.pair (.int .i64) (.pair .str .unit)),b,[]⟩)::nS 19 []⟩
def zhl(a:cn):State:=⟨uS 19 [],(some ⟨(.pair (.int .i64) (.pair .str .unit)),a,[]⟩)::nS 19 []⟩
def z138(a:cn):KX R:=(zk 0 (aF Y8 (vL R) kk (sub [1,1] (cd Tryz.f189)) (aD Y8 Tryz.f189.results.toList (some ⟨(.pair (.int .i64) (.pair .str .unit)),a,[]⟩) K)))
theorem am1(a:ak)(b c:Int)(d:cn):Xh R kk (k+1) J a b c d=
 z139 a b c d (fun a0 a1=>J .ret (zhk a0 a1)) (Xh R kk k J) (fun a0=>J (.exit 0) (zhl a0)):=by kernel_rfl
theorem agl(a:cn)(b:Int)(c:cn):z138 R kk K a .ret (zhk b c)=
 Ef b c (fun a0 a1=>K [tI a0] (some ⟨(.pair (.int .i64) (.pair .str .unit)),a1,[]⟩)):=by kernel_rfl
theorem agm(a b:cn):z138 R kk K a (.exit 0) (zhl b)=
 Eg b (fun a0 a1=>K [tI a0] (some ⟨(.pair (.int .i64) (.pair .str .unit)),a1,[]⟩)):=by kernel_rfl
theorem ajI{kk:Nat}(hF:kk=ah)(nv:ak)(t7 t8:Int)(recv:cn):Xh R kk k J nv t7 t8 recv=(Su k nv t7 t8 recv).bind fun e=>(Sum.elim (fun(we:(Int×cn))=>J .ret (zhk we.1 we.2)) (fun(we:cn)=>J (.exit 0) (zhl we)) e):=by
 induction k generalizing nv t7 t8 recv with
 |zero=>rfl
 |succ k ih=>
  rw[am1]
  simp only[Su,z139,ih,ay]
def J8:ai:=vL.add 189 [(.sl 96 (.pair (.int .i64) (.pair .str .unit))),.unit] (pz (.sl 96 (.pair (.int .i64) (.pair .str .unit))) (.aZ (.ru 134) (.pair (.int .i64) (.pair .str .unit)) .unit) (.pair (.int .i64) (.pair .str .unit)) [] vu (fun _ r K=>K [tI r.1] (some ⟨(.pair (.int .i64) (.pair .str .unit)),r.2,[]⟩)))
theorem o20:aJ Tryz.prog J8:=sz Y8 Tryz.f189 (fun R kk x0 x1 K=>Xi x0 x1 (Xh R kk kk (z138 R kk K x1))) o19 (ek _ _ _ _) Tryz.func189 (by kernel_rfl) rfl (fun _ _ _ _ _ _ h=>h _ _) (fun _ _ _ _ _=>by kernel_rfl) fun R kk e x0 x1 K=>by
 simp only[vu,Xi,Ef,Eg,ajI (hF:=e),agl,agm,ay,<-e]
def apl:Env:=e0 [(.sl 96 (.pair (.int .i64) (.pair .str .unit))),.unit]
def J9:ai:=J8.add 133 [(.sl 96 (.pair (.int .i64) (.pair .str .unit))),.unit] (pz (.sl 96 (.pair (.int .i64) (.pair .str .unit))) (.aZ (.ru 134) (.pair (.int .i64) (.pair .str .unit)) .unit) (.pair (.int .i64) (.pair .str .unit)) [] sO (fun _ r K=>K [tB r.1] (some ⟨(.pair (.int .i64) (.pair .str .unit)),r.2,[]⟩)))
theorem o21:aJ Tryz.prog J9:=sz apl Tryz.f133 (fun R kk x0 x1 K=>Xf x0 x1 (fun a0 a1=>K [tB a0] (some ⟨(.pair (.int .i64) (.pair .str .unit)),a1,[]⟩))) o20 (ek _ _ _ _) Tryz.func133 (by kernel_rfl) rfl (fun _ _ _ _ _ _ h=>h _ _) (fun _ _ _ _ _=>by kernel_rfl) fun R kk e x0 x1 K=>by
 simp only[sO,Xf,ay]
def Jm:Env:=e0 [(.int .u8)]
def vM:ai:=J9.add 212 [(.int .u8)] (cC (.int .u8) Bn (fun _ r K=>K [tI r] none))
theorem o22:aJ Tryz.prog vM:=cD Jm Tryz.f212 (fun R kk x0 K=>Fh x0 (fun a0=>K [tI a0] none)) o21 (ek _ _ _ _) Tryz.func212 (by kernel_rfl) rfl (fun _ _ _ _ _ _ h=>h _ _) (fun _ _ _ _=>by kernel_rfl) fun R kk e x0 K=>by
 simp only[Bn,Fh,ay]
def n6:Env:=bG.env (fun i=>bif Nat.beq i 3 then [1,5,6] else []) (fun i=>bif Nat.beq i 3 then [4] else []) [] [(.int .i64),.str]
def YP(a:ByteArray)(b c:Int):Option R:=aw (ev n6 (vM R) kk (sub [1,1,0,1,0,0] (cd Tryz.f190))) [1,5,6] [4] k ⟨uS 1 ([tS a]::uS 3 ([tI b]::[tI c]::uS 16 [])),nS 24 []⟩ J
def zru(a:Int):State:=⟨uS 4 ([tI a]::uS 18 []),nS 24 []⟩
def zrv:State:=⟨uS 23 [],nS 24 []⟩
def Fe:KX R:=(zk 0 (aF n6 (vM R) kk (sub [1,1,1] (cd Tryz.f190)) (aD n6 Tryz.f190.results.toList none K)))
theorem ao1(a:ByteArray)(b c:Int):YP R kk (k+1) J a b c=
 SO a b c (fun a0=>J .ret (zru a0)) (YP R kk k J) (J (.exit 0) (zrv)):=by kernel_rfl
theorem ajo(a:Int):Fe R kk K .ret (zru a)=
 Ff a (fun a0=>K [tI a0] none):=by kernel_rfl
theorem ajp:Fe R kk K (.exit 0) (zrv)=
 Fg (fun a0=>K [tI a0] none):=by kernel_rfl
theorem amI{kk:Nat}(hF:kk=ah)(kj:ByteArray)(t5 t6:Int):YP R kk k J kj t5 t6=(Hc k kj t5 t6).bind fun e=>(Sum.elim (fun(we:Int)=>J .ret (zru we)) (fun(we:Unit)=>J (.exit 0) (zrv)) e):=by
 induction k generalizing kj t5 t6 with
 |zero=>rfl
 |succ k ih=>
  rw[ao1]
  simp only[Hc,SO,ih,ay]
def Ka:ai:=vM.add 190 [(.int .i64),.str] (cP (.int .i64) .str Ji (fun _ r K=>K [tI r] none))
theorem o23:aJ Tryz.prog Ka:=cR n6 Tryz.f190 (fun R kk x0 x1 K=>YQ x0 x1 (YP R kk kk (Fe R kk K))) o22 (ek _ _ _ _) Tryz.func190 (by kernel_rfl) rfl (fun _ _ _ _ _ _ h=>h _ _) (fun _ _ _ _ _=>by kernel_rfl) fun R kk e x0 x1 K=>by
 simp only[Ji,YQ,Ff,Fg,amI (hF:=e),ajo,ajp,ay,<-e]
def apx:Env:=e0 [(.int .i64)]
def Kb:ai:=Ka.add 227 [(.int .i64)] (cC (.int .i64) nj (fun _ r K=>K [tB r] none))
theorem o24:aJ Tryz.prog Kb:=cD apx Tryz.f227 (fun R kk x0 K=>Eu x0 (fun a0=>K [tB a0] none)) o23 (ek _ _ _ _) Tryz.func227 (by kernel_rfl) rfl (fun _ _ _ _ _ _ h=>h _ _) (fun _ _ _ _=>by kernel_rfl) fun R kk e x0 K=>by
 simp only[nj,Eu,ay]
def apw:Env:=e0 [(.int .i64)]
def Kc:ai:=Kb.add 228 [(.int .i64)] (cC (.int .i64) sU (fun _ r K=>K [tB r] none))
theorem o25:aJ Tryz.prog Kc:=cD apw Tryz.f228 (fun R kk x0 K=>XF x0 (fun a0=>K [tB a0] none)) o24 (ek _ _ _ _) Tryz.func228 (by kernel_rfl) rfl (fun _ _ _ _ _ _ h=>h _ _) (fun _ _ _ _=>by kernel_rfl) fun R kk e x0 K=>by
 simp only[sU,XF,ay]
def apv:Env:=e0 [.str,(.int .i64)]
def Kd:ai:=Kc.add 213 [.str,(.int .i64)] (cP .str (.int .i64) sT (fun _ r K=>K [tI r.1,tI r.2.1,tI r.2.2] none))
theorem o26:aJ Tryz.prog Kd:=cR apv Tryz.f213 (fun R kk x0 x1 K=>XE x0 x1 (fun a0 a1 a2=>K [tI a0,tI a1,tI a2] none)) o25 (ek _ _ _ _) Tryz.func213 (by kernel_rfl) rfl (fun _ _ _ _ _ _ h=>h _ _) (fun _ _ _ _ _=>by kernel_rfl) fun R kk e x0 x1 K=>by
 simp only[sT,XE,ay]
def aae:Env:=e0 [(.int .i64)]
def vN:ai:=Kd.add 229 [(.int .i64)] (cC (.int .i64) Q4 (fun _ r K=>K [tI r] none))
theorem o27:aJ Tryz.prog vN:=cD aae Tryz.f229 (fun R kk x0 K=>oj x0 (fun a0=>K [tI a0] none)) o26 (ek _ _ _ _) Tryz.func229 (by kernel_rfl) rfl (fun _ _ _ _ _ _ h=>h _ _) (fun _ _ _ _=>by kernel_rfl) fun R kk e x0 K=>by
 simp only[Q4,oj,ay]
def vB:Env:=bG.env (fun i=>bif Nat.beq i 14 then [0,1,7,8,44,45] else []) (fun i=>bif Nat.beq i 14 then [1,7,8] else []) [] [.str,(.int .i64)]
def oi(a:ByteArray)(b c d e f:Int):Option R:=aw (ev vB (vN R) kk (sub [1,1,1,1,1,1,1,0,1,0,0] (cd Tryz.f214))) [0,1,7,8,44,45] [1,7,8] k ⟨[tS a]::[tI b]::uS 5 ([tI c]::[tI d]::uS 35 ([tI e]::[tI f]::uS 21 [])),nS 68 []⟩ J
def EU(a b c:Int):State:=⟨uS 1 ([tI a]::uS 5 ([tI b]::[tI c]::uS 58 [])),nS 68 []⟩
def x9:KX R:=(zk 0 (aF vB (vN R) kk (sub [1,1,1,1,1,1,1,1] (cd Tryz.f214)) (aD vB Tryz.f214.results.toList none K)))
theorem JB(a:ByteArray)(b c d e f:Int):oi R kk (k+1) J a b c d e f=
 kp a b c d e f (oi R kk k J) (fun a0 a1 a2=>J (.exit 0) (EU a0 a1 a2)):=by kernel_rfl
theorem anm(a b c:Int):x9 R kk K (.exit 0) (EU a b c)=
 kq a b c (fun a0 a1 a2=>K [tI a0,tI a1,tI a2] none):=by kernel_rfl
theorem apF{kk:Nat}(hF:kk=ah)(jv:ByteArray)(BA t7 t8 t44 t45:Int):oi R kk k J jv BA t7 t8 t44 t45=(eh k jv BA t7 t8 t44 t45).bind fun e=>J (.exit 0) (EU e.1 e.2.1 e.2.2):=by
 induction k generalizing jv BA t7 t8 t44 t45 with
 |zero=>rfl
 |succ k ih=>
  rw[JB]
  simp only[eh,kp,ih,ay]
def vO:ai:=vN.add 214 [.str,(.int .i64)] (cP .str (.int .i64) Q3 (fun _ r K=>K [tI r.1,tI r.2.1,tI r.2.2] none))
theorem o28:aJ Tryz.prog vO:=cR vB Tryz.f214 (fun R kk x0 x1 K=>ko x0 x1 (fun a0 a1 a2=>K [tI a0,tI a1,tI a2] none) (fun a0 a1 a2 a3 a4 a5=>oi R kk kk (x9 R kk K) a0 a1 a2 a3 a4 a5)) o27 (ek _ _ _ _) Tryz.func214 (by kernel_rfl) rfl (fun _ _ _ _ _ _ h=>h _ _) (fun _ _ _ _ _=>by kernel_rfl) fun R kk e x0 x1 K=>by
 simp only[Q3,ad2,kq,apF (hF:=e),anm,ay,<-e]
def Zg:Env:=bG.env (fun i=>bif Nat.beq i 4 then [0,5,6,7,13] else []) (fun i=>bif Nat.beq i 4 then [2,3,4,5] else []) [] [.str]
def XG(a:ByteArray)(b:ak)(c:Int)(d:Bv):Option R:=aw (ev Zg (vO R) kk (sub [1,1,1,0,1,0,0] (cd Tryz.f191))) [0,5,6,7,13] [2,3,4,5] k ⟨[tS a]::uS 4 ([.aj (.sl 245 (.pair (.int .i64) (.pair .str .unit))) b [[]]]::[.ptr 14 (.aZ .mp (.int .i64) .bool) []]::[tI c]::uS 5 ([.ptr 14 (.aZ .mp (.int .i64) .bool) []]::uS 58 [])),nS 14 ((some ⟨(.aZ .mp (.int .i64) .bool),d,[]⟩)::nS 58 [])⟩ J
def zhv(a:ak)(b c:Int)(d:ak):State:=⟨uS 2 ([.aj (.sl 245 (.pair (.int .i64) (.pair .str .unit))) a [[]]]::[tI b]::[tI c]::[.aj (.sl 245 (.pair (.int .i64) (.pair .str .unit))) d [[]]]::uS 66 []),nS 73 []⟩
def zhw(a:ak):State:=⟨uS 5 ([.aj (.sl 245 (.pair (.int .i64) (.pair .str .unit))) a [[]]]::uS 66 []),nS 73 []⟩
def Ev:KX R:=(zk 0 (aF Zg (vO R) kk (sub [1,1,1,1] (cd Tryz.f191)) (aD Zg Tryz.f191.results.toList none K)))
theorem am8(a:ByteArray)(b:ak)(c:Int)(d:Bv):XG R kk (k+1) J a b c d=
 XI a b c d (fun a0 a1 a2 a3=>J .ret (zhv a0 a1 a2 a3)) (XG R kk k J) (fun a0=>J (.exit 0) (zhw a0)):=by kernel_rfl
theorem agv(a:ak)(b c:Int)(d:ak):Ev R kk K .ret (zhv a b c d)=
 Ew a b c d (fun a0 a1 a2=>K [.aj (.sl 245 (.pair (.int .i64) (.pair .str .unit))) a0 [[]],tI a1,tI a2] none):=by kernel_rfl
theorem agw(a:ak):Ev R kk K (.exit 0) (zhw a)=
 Ey a (fun a0 a1 a2=>K [.aj (.sl 245 (.pair (.int .i64) (.pair .str .unit))) a0 [],tI a1,tI a2] none):=by kernel_rfl
theorem ajQ{kk:Nat}(hF:kk=ah)(jv:ByteArray)(t5:ak)(t7:Int)(eL:Bv):XG R kk k J jv t5 t7 eL=(Iq k jv t5 t7 eL).bind fun e=>(Sum.elim (fun(we:qB)=>J .ret (zhv we.1 we.2.1 we.2.2.1 we.2.2.2)) (fun(we:ak)=>J (.exit 0) (zhw we)) e):=by
 induction k generalizing jv t5 t7 eL with
 |zero=>rfl
 |succ k ih=>
  rw[am8]
  simp only[Iq,XI,ih,ay]
def Ke:ai:=vO.add 191 [.str] (cC .str sV (fun _ r K=>(Sum.elim (fun(wr:iR)=>K [.aj (.sl 245 (.pair (.int .i64) (.pair .str .unit))) wr.1 [[]],tI wr.2.1,tI wr.2.2] none) (fun(wr:iR)=>K [.aj (.sl 245 (.pair (.int .i64) (.pair .str .unit))) wr.1 [],tI wr.2.1,tI wr.2.2] none) r)))
theorem o29:aJ Tryz.prog Ke:=cD Zg Tryz.f191 (fun R kk x0 K=>XH x0 (XG R kk kk (Ev R kk K))) o28 (ek _ _ _ _) Tryz.func191 (by kernel_rfl) rfl (fun _ _ _ _ _ _ h=>Qg (fun _=>h _ _) (fun _=>h _ _)) (fun _ _ _ _=>by kernel_rfl) fun R kk e x0 K=>by
 simp only[sV,XH,Ew,Ey,ajQ (hF:=e),agv,agw,ay,<-e]
def apo:Env:=e0 [y9,.str]
def Kf:ai:=Ke.add 135 [y9,.str] (cP y9 .str bH (fun _ r K=>K [tI r] none))
theorem o30:aJ Tryz.prog Kf:=cR apo Tryz.f135 (fun R kk x0 x1 K=>Xo x0 x1 (fun a0=>K [tI a0] none)) o29 (ek _ _ _ _) Tryz.func135 (by kernel_rfl) rfl (fun _ _ _ _ _ _ h=>h _ _) (fun _ _ _ _ _=>by kernel_rfl) fun R kk e x0 x1 K=>by
 simp only[bH,Xo,ay]
def z213:Env:=e0 [cg,(.int .i64),y9]
def qA:ai:=Kf.add 75 [cg,(.int .i64),y9] (gu cg (.int .i64) y9 sK (fun _ r K=>K [tI r] none))
theorem o31:aJ Tryz.prog qA:=gx z213 Tryz.f75 (fun R kk x0 x1 x2 K=>WV x0 x1 x2 (fun a0=>K [tI a0] none)) o30 (ek _ _ _ _) Tryz.func75 (by kernel_rfl) rfl (fun _ _ _ _ _ _ h=>h _ _) (fun _ _ _ _ _ _=>by kernel_rfl) fun R kk e x0 x1 x2 K=>by
 simp only[sK,WV,ay]
def Hd:Env:=bG.env (fun i=>bif Nat.beq i 8 then [1,7,33,34] else bif Nat.beq i 16 then [1,7,11,46,47,48] else []) (fun i=>bif Nat.beq i 8 then [1,2,3,4,7] else bif Nat.beq i 16 then [1,2,3,4,11] else []) [] [cg]
def WL(a b:Int)(c:au)(d:ap):Option R:=aw (ev Hd (qA R) kk (sub [1,1,1,1,0,1,0,0] (cd Tryz.f30))) [1,7,33,34] [1,2,3,4,7] k ⟨uS 1 ([.ptr 2 cg []]::uS 5 ([.ptr 8 y9 []]::uS 25 ([tI a]::[tI b]::uS 38 []))),nS 2 ((some ⟨cg,c,[]⟩)::nS 5 ((some ⟨y9,d,[]⟩)::nS 65 []))⟩ J
def zh3(a b c:Int)(d:au)(e:ap):State:=⟨uS 1 ([.ptr 2 cg []]::[tI a]::[tI b]::[tI c]::uS 2 ([.ptr 8 y9 []]::uS 65 [])),nS 2 ((some ⟨cg,d,[]⟩)::nS 5 ((some ⟨y9,e,[]⟩)::nS 65 []))⟩
def zh4(a:au)(b:ap):State:=⟨uS 1 ([.ptr 2 cg []]::uS 5 ([.ptr 8 y9 []]::uS 65 [])),nS 2 ((some ⟨cg,a,[]⟩)::nS 5 ((some ⟨y9,b,[]⟩)::nS 65 []))⟩
def DU:KX R:=(zk 0 (aF Hd (qA R) kk (sub [1,1,1,1,1] (cd Tryz.f30)) (aD Hd Tryz.f30.results.toList none K)))
def WM(a:Bool)(b:ak)(c d:Int)(e:au)(f:ap):Option R:=aw (ev Hd (qA R) kk (sub [1,1,1,1,1,1,0,1,0,0] (cd Tryz.f30))) [1,7,11,46,47,48] [1,2,3,4,11] k ⟨uS 1 ([.ptr 2 cg []]::uS 5 ([.ptr 8 y9 []]::uS 3 ([tB a]::uS 34 ([.aj (.sl 96 (.pair (.int .i64) (.pair .str .unit))) b []]::[tI c]::[tI d]::uS 24 [])))),nS 2 ((some ⟨cg,e,[]⟩)::nS 5 ((some ⟨y9,f,[]⟩)::nS 65 []))⟩ J
def zh5(a b c:Int)(d:Bool)(e:au):State:=⟨uS 1 ([.ptr 2 cg []]::[tI a]::[tI b]::[tI c]::uS 6 ([tB d]::uS 61 [])),nS 2 ((some ⟨cg,e,[]⟩)::nS 71 [])⟩
def zh6(a:Bool)(b:au):State:=⟨uS 1 ([.ptr 2 cg []]::uS 9 ([tB a]::uS 61 [])),nS 2 ((some ⟨cg,b,[]⟩)::nS 71 [])⟩
def DV:KX R:=(zk 2 (aF Hd (qA R) kk (sub [1,1,1,1,1,1,1] (cd Tryz.f30)) (aD Hd Tryz.f30.results.toList none K)))
theorem amR(a b:Int)(c:au)(d:ap):WL R kk (k+1) J a b c d=
 So a b c d (fun a0 a1 a2 a3 a4=>J .ret (zh3 a0 a1 a2 a3 a4)) (WL R kk k J) (fun a0 a1=>J (.exit 0) (zh4 a0 a1)):=by kernel_rfl
theorem af4(a b c:Int)(d:au)(e:ap):DU R kk K .ret (zh3 a b c d e)=
 DW a b c d e (fun a0 a1 a2=>K [tI a0,tI a1,tI a2] none):=by kernel_rfl
theorem af5(a:au)(b:ap):DU R kk K (.exit 0) (zh4 a b)=
 WO a b (WM R kk kk (DV R kk K)):=by kernel_rfl
theorem amS(a:Bool)(b:ak)(c d:Int)(e:au)(f:ap):WM R kk (k+1) J a b c d e f=
 Sp a b c d e f (fun a0 a1 a2 a3 a4=>J .ret (zh5 a0 a1 a2 a3 a4)) (WM R kk k J) (fun a0 a1=>J (.exit 2) (zh6 a0 a1)):=by kernel_rfl
theorem af6(a b c:Int)(d:Bool)(e:au):DV R kk K .ret (zh5 a b c d e)=
 DX a b c d e (fun a0 a1 a2=>K [tI a0,tI a1,tI a2] none):=by kernel_rfl
theorem af7(a:Bool)(b:au):DV R kk K (.exit 2) (zh6 a b)=
 WQ a b (fun a0 a1 a2=>K [tI a0,tI a1,tI a2] none):=by kernel_rfl
theorem ajy{kk:Nat}(hF:kk=ah)(t33 t34:Int)(cT:au)(jy:ap):WL R kk k J t33 t34 cT jy=(GQ k t33 t34 cT jy).bind fun e=>(Sum.elim (fun(we:(Int×Int×Int×au×ap))=>J .ret (zh3 we.1 we.2.1 we.2.2.1 we.2.2.2.1 we.2.2.2.2)) (fun(we:(au×ap))=>J (.exit 0) (zh4 we.1 we.2)) e):=by
 induction k generalizing t33 t34 cT jy with
 |zero=>rfl
 |succ k ih=>
  rw[amR]
  simp only[GQ,So,ih,ay]
theorem ajz{kk:Nat}(hF:kk=ah)(t11:Bool)(t46:ak)(t47 t48:Int)(cT:au)(jy:ap):WM R kk k J t11 t46 t47 t48 cT jy=(GR k t11 t46 t47 t48 cT jy).bind fun e=>(Sum.elim (fun(we:(Int×Int×Int×Bool×au))=>J .ret (zh5 we.1 we.2.1 we.2.2.1 we.2.2.2.1 we.2.2.2.2)) (fun(we:(Bool×au))=>J (.exit 2) (zh6 we.1 we.2)) e):=by
 induction k generalizing t11 t46 t47 t48 cT jy with
 |zero=>rfl
 |succ k ih=>
  rw[amS]
  simp only[GR,Sp,ih,ay]
def vP:ai:=qA.add 30 [cg] (cC cg sI (fun _ r K=>K [tI r.1,tI r.2.1,tI r.2.2] none))
theorem o32:aJ Tryz.prog vP:=cD Hd Tryz.f30 (fun R kk x0 K=>WN x0 (fun a0 a1 a2=>K [tI a0,tI a1,tI a2] none) (WL R kk kk (DU R kk K))) o31 (ek _ _ _ _) Tryz.func30 (by kernel_rfl) rfl (fun _ _ _ _ _ _ h=>h _ _) (fun _ _ _ _=>by kernel_rfl) fun R kk e x0 K=>by
 simp only[sI,WN,DW,WO,DX,WQ,ajy (hF:=e),ajz (hF:=e),af4,af5,af6,af7,ay,<-e]
def oc:Env:=bG.env (fun i=>bif Nat.beq i 2 then [6] else []) (fun i=>bif Nat.beq i 2 then [2] else []) [] [.str]
def Zk(a:l6):Option R:=aw (ev oc (vP R) kk (sub [1,0,1,0,0] (cd Tryz.f199))) [6] [2] k ⟨uS 6 ([.ptr 7 (.aZ .iter .unit .unit) []]::uS 9 []),nS 7 ((some ⟨(.aZ .iter .unit .unit),a,[]⟩)::nS 9 [])⟩ J
def zs0(a:Bool):State:=⟨uS 2 ([tB a]::uS 13 []),nS 17 []⟩
def zs1:State:=⟨uS 16 [],nS 17 []⟩
def Fs:KX R:=(zk 0 (aF oc (vP R) kk (sub [1,1] (cd Tryz.f199)) (aD oc Tryz.f199.results.toList none K)))
theorem apB(a:l6):Zk R kk (k+1) J a=
 Zm a (fun a0=>J .ret (zs0 a0)) (Zk R kk k J) (J (.exit 0) (zs1)):=by kernel_rfl
theorem ajZ(a:Bool):Fs R kk K .ret (zs0 a)=
 Ft a (fun a0=>K [tB a0] none):=by kernel_rfl
theorem aj0:Fs R kk K (.exit 0) (zs1)=
 Fu (fun a0=>K [tB a0] none):=by kernel_rfl
theorem ani{kk:Nat}(hF:kk=ah)(eL:l6):Zk R kk k J eL=(IE k eL).bind fun e=>(Sum.elim (fun(we:Bool)=>J .ret (zs0 we)) (fun(we:Unit)=>J (.exit 0) (zs1)) e):=by
 induction k generalizing eL with
 |zero=>rfl
 |succ k ih=>
  rw[apB]
  simp only[IE,Zm,ih,ay]
def Kg:ai:=vP.add 199 [.str] (cC .str x7 (fun _ r K=>K [tB r] none))
theorem o33:aJ Tryz.prog Kg:=cD oc Tryz.f199 (fun R kk x0 K=>Zl x0 (Zk R kk kk (Fs R kk K))) o32 (ek _ _ _ _) Tryz.func199 (by kernel_rfl) rfl (fun _ _ _ _ _ _ h=>h _ _) (fun _ _ _ _=>by kernel_rfl) fun R kk e x0 K=>by
 simp only[x7,Zl,Ft,Fu,ani (hF:=e),ajZ,aj0,ay,<-e]
def ao8:Env:=e0 [.str]
def Kh:ai:=Kg.add 153 [.str] (cC .str ng (fun _ r K=>K [tB r] none))
theorem o34:aJ Tryz.prog Kh:=cD ao8 Tryz.f153 (fun R kk x0 K=>WB x0 (fun a0=>K [tB a0] none)) o33 (ek _ _ _ _) Tryz.func153 (by kernel_rfl) rfl (fun _ _ _ _ _ _ h=>h _ _) (fun _ _ _ _=>by kernel_rfl) fun R kk e x0 K=>by
 simp only[ng,WB,ay]
def ao9:Env:=e0 [.str]
def Ki:ai:=Kh.add 136 [.str] (cC .str iO (fun _ r K=>K [tI r.1,tB r.2] none))
theorem o35:aJ Tryz.prog Ki:=cD ao9 Tryz.f136 (fun R kk x0 K=>WC x0 (fun a0 a1=>K [tI a0,tB a1] none)) o34 (ek _ _ _ _) Tryz.func136 (by kernel_rfl) rfl (fun _ _ _ _ _ _ h=>h _ _) (fun _ _ _ _=>by kernel_rfl) fun R kk e x0 K=>by
 simp only[iO,WC,ay]
def ao6:Env:=e0 [.str]
def Kj:ai:=Ki.add 137 [.str] (cC .str nf (fun _ r K=>K [tB r] none))
theorem o36:aJ Tryz.prog Kj:=cD ao6 Tryz.f137 (fun R kk x0 K=>Wz x0 (fun a0=>K [tB a0] none)) o35 (ek _ _ _ _) Tryz.func137 (by kernel_rfl) rfl (fun _ _ _ _ _ _ h=>h _ _) (fun _ _ _ _=>by kernel_rfl) fun R kk e x0 K=>by
 simp only[nf,Wz,ay]
def apA:Env:=e0 [(.pair .str (.pair .str .unit)),aC,aC]
def Kk:ai:=Kj.add 76 [(.pair .str (.pair .str .unit)),aC,aC] (gu (.pair .str (.pair .str .unit)) aC aC np (fun _ r K=>K [tB r] none))
theorem o37:aJ Tryz.prog Kk:=gx apA Tryz.f76 (fun R kk x0 x1 x2 K=>X5 x0 x1 x2 (fun a0=>K [tB a0] none)) o36 (ek _ _ _ _) Tryz.func76 (by kernel_rfl) rfl (fun _ _ _ _ _ _ h=>h _ _) (fun _ _ _ _ _ _=>by kernel_rfl) fun R kk e x0 x1 x2 K=>by
 simp only[np,X5,ay]
def api:Env:=bG.env (fun _=>[]) (fun _=>[]) [6,7] [cm,aC,aC]
def Kl:ai:=Kk.add 138 [cm,aC,aC] (gu cm aC aC sN (fun _ r K=>K [.aj y9 r.1 [],.aj y9 r.2.1 [],tI r.2.2] none))
theorem o38:aJ Tryz.prog Kl:=gx api Tryz.f138 (fun R kk x0 x1 x2 K=>W6 x0 x1 x2 (fun a0 a1 a2=>K [.aj y9 a0 [],.aj y9 a1 [],tI a2] none)) o37 (ek _ _ _ _) Tryz.func138 (by kernel_rfl) rfl (fun _ _ _ _ _ _ h=>h _ _) (fun _ _ _ _ _ _=>by kernel_rfl) fun R kk e x0 x1 x2 K=>by
 simp only[sN,W6,ay]
def Jl:Env:=e0 [(.int .i64),(.int .i64)]
def Km:ai:=Kl.add 210 [(.int .i64),(.int .i64)] (cP (.int .i64) (.int .i64) Jk (fun _ r K=>K [tB r] none))
theorem o39:aJ Tryz.prog Km:=cR Jl Tryz.f210 (fun R kk x0 x1 K=>YY x0 x1 (fun a0=>K [tB a0] none)) o38 (ek _ _ _ _) Tryz.func210 (by kernel_rfl) rfl (fun _ _ _ _ _ _ h=>h _ _) (fun _ _ _ _ _=>by kernel_rfl) fun R kk e x0 x1 K=>by
 simp only[Jk,YY,ay]
def apr:Env:=e0 [(.int .i64),(.int .i64)]
def Kn:ai:=Km.add 185 [(.int .i64),(.int .i64)] (cP (.int .i64) (.int .i64) vw (fun _ r K=>K [tB r] none))
theorem o40:aJ Tryz.prog Kn:=cR apr Tryz.f185 (fun R kk x0 x1 K=>Xq x0 x1 (fun a0=>K [tB a0] none)) o39 (ek _ _ _ _) Tryz.func185 (by kernel_rfl) rfl (fun _ _ _ _ _ _ h=>h _ _) (fun _ _ _ _ _=>by kernel_rfl) fun R kk e x0 x1 K=>by
 simp only[vw,Xq,ay]
def apq:Env:=e0 [y9,y9]
def Ko:ai:=Kn.add 127 [y9,y9] (cP y9 y9 kX (fun _ r K=>K [tB r] none))
theorem o41:aJ Tryz.prog Ko:=cR apq Tryz.f127 (fun R kk x0 x1 K=>Xp x0 x1 (fun a0=>K [tB a0] none)) o40 (ek _ _ _ _) Tryz.func127 (by kernel_rfl) rfl (fun _ _ _ _ _ _ h=>h _ _) (fun _ _ _ _ _=>by kernel_rfl) fun R kk e x0 x1 K=>by
 simp only[kX,Xp,ay]
def apj:Env:=e0 [y9]
def vQ:ai:=Ko.add 139 [y9] (cC y9 iP (fun _ r K=>K [tB r] none))
theorem o42:aJ Tryz.prog vQ:=cD apj Tryz.f139 (fun R kk x0 K=>W7 x0 (fun a0=>K [tB a0] none)) o41 (ek _ _ _ _) Tryz.func139 (by kernel_rfl) rfl (fun _ _ _ _ _ _ h=>h _ _) (fun _ _ _ _=>by kernel_rfl) fun R kk e x0 K=>by
 simp only[iP,W7,ay]
def n9:Env:=bG.env (fun i=>bif Nat.beq i 5 then [4,10,11,12,13] else []) (fun i=>bif Nat.beq i 5 then [2,3] else []) [] [(.sl 116 (.pair .str (.pair .str .unit)))]
def Ze(a:aK)(b c:Int)(d:gE):Option R:=aw (ev n9 (vQ R) kk (sub [1,1,1,0,1,0,0] (cd Tryz.f126))) [4,10,11,12,13] [2,3] k ⟨uS 4 ([.ptr 11 (.aZ .mp .str .bool) []]::uS 5 ([.ptr 11 (.aZ .mp .str .bool) []]::[.aj (.sl 116 (.pair .str (.pair .str .unit))) a []]::[tI b]::[tI c]::uS 13 [])),nS 11 ((some ⟨(.aZ .mp .str .bool),d,[]⟩)::nS 16 [])⟩ J
def zry(a b:Int):State:=⟨uS 2 ([tI a]::[tI b]::uS 23 []),nS 28 []⟩
def zrz:State:=⟨uS 27 [],nS 28 []⟩
def Fm:KX R:=(zk 0 (aF n9 (vQ R) kk (sub [1,1,1,1] (cd Tryz.f126)) (aD n9 Tryz.f126.results.toList none K)))
theorem apu(a:aK)(b c:Int)(d:gE):Ze R kk (k+1) J a b c d=
 Fo a b c d (fun a0 a1=>J .ret (zry a0 a1)) (Ze R kk k J) (J (.exit 0) (zrz)):=by kernel_rfl
theorem ajO(a b:Int):Fm R kk K .ret (zry a b)=
 Fp a b (fun a0 a1=>K [tI a0,tI a1] none):=by kernel_rfl
theorem ajP:Fm R kk K (.exit 0) (zrz)=
 Fq (fun a0 a1=>K [tI a0,tI a1] none):=by kernel_rfl
theorem am7{kk:Nat}(hF:kk=ah)(t11:aK)(t12 t13:Int)(bQ:gE):Ze R kk k J t11 t12 t13 bQ=(SQ k t11 t12 t13 bQ).bind fun e=>(Sum.elim (fun(we:(Int×Int))=>J .ret (zry we.1 we.2)) (fun(we:Unit)=>J (.exit 0) (zrz)) e):=by
 induction k generalizing t11 t12 t13 bQ with
 |zero=>rfl
 |succ k ih=>
  rw[apu]
  simp only[SQ,Fo,ih,ay]
def vR:ai:=vQ.add 126 [(.sl 116 (.pair .str (.pair .str .unit)))] (cC (.sl 116 (.pair .str (.pair .str .unit))) Jq (fun _ r K=>K [tI r.1,tI r.2] none))
theorem o43:aJ Tryz.prog vR:=cD n9 Tryz.f126 (fun R kk x0 K=>Zf x0 (fun a0 a1=>K [tI a0,tI a1] none) (Ze R kk kk (Fm R kk K))) o42 (ek _ _ _ _) Tryz.func126 (by kernel_rfl) rfl (fun _ _ _ _ _ _ h=>h _ _) (fun _ _ _ _=>by kernel_rfl) fun R kk e x0 K=>by
 simp only[Jq,Zf,Fp,Fq,am7 (hF:=e),ajO,ajP,ay,<-e]
def Y5:Env:=bG.env (fun i=>bif Nat.beq i 5 then [4,5,25,26,27] else []) (fun i=>bif Nat.beq i 5 then [6] else []) [] [(.sl 116 (.pair .str (.pair .str .unit))),y9,y9]
def W8(a:aK)(b c:Int)(d e:ap):Option R:=aw (ev Y5 (vR R) kk (sub [1,1,0,1,0,0] (cd Tryz.f140))) [4,5,25,26,27] [6] k ⟨uS 4 ([.ptr 5 y9 []]::[.ptr 6 y9 []]::uS 19 ([.aj (.sl 116 (.pair .str (.pair .str .unit))) a []]::[tI b]::[tI c]::uS 18 [])),nS 5 ((some ⟨y9,d,[]⟩)::(some ⟨y9,e,[]⟩)::nS 40 [])⟩ J
def zhe(a:Int):State:=⟨uS 6 ([tI a]::uS 39 []),nS 47 []⟩
def zhf:State:=⟨uS 46 [],nS 47 []⟩
def D8:KX R:=(zk 0 (aF Y5 (vR R) kk (sub [1,1,1] (cd Tryz.f140)) (aD Y5 Tryz.f140.results.toList none K)))
theorem amY(a:aK)(b c:Int)(d e:ap):W8 R kk (k+1) J a b c d e=
 z130 a b c d e (fun a0=>J .ret (zhe a0)) (W8 R kk k J) (J (.exit 0) (zhf)):=by kernel_rfl
theorem age(a:Int):D8 R kk K .ret (zhe a)=
 z131 a (fun a0=>K [tI a0] none):=by kernel_rfl
theorem agf:D8 R kk K (.exit 0) (zhf)=
 D9 (fun a0=>K [tI a0] none):=by kernel_rfl
theorem ajF{kk:Nat}(hF:kk=ah)(t25:aK)(t26 t27:Int)(bQ cV:ap):W8 R kk k J t25 t26 t27 bQ cV=(Sr k t25 t26 t27 bQ cV).bind fun e=>(Sum.elim (fun(we:Int)=>J .ret (zhe we)) (fun(we:Unit)=>J (.exit 0) (zhf)) e):=by
 induction k generalizing t25 t26 t27 bQ cV with
 |zero=>rfl
 |succ k ih=>
  rw[amY]
  simp only[Sr,z130,ih,ay]
def Kp:ai:=vR.add 140 [(.sl 116 (.pair .str (.pair .str .unit))),y9,y9] (gu (.sl 116 (.pair .str (.pair .str .unit))) y9 y9 lW (fun _ r K=>K [tI r] none))
theorem o44:aJ Tryz.prog Kp:=gx Y5 Tryz.f140 (fun R kk x0 x1 x2 K=>W9 x0 x1 x2 (fun a0=>K [tI a0] none) (W8 R kk kk (D8 R kk K))) o43 (ek _ _ _ _) Tryz.func140 (by kernel_rfl) rfl (fun _ _ _ _ _ _ h=>h _ _) (fun _ _ _ _ _ _=>by kernel_rfl) fun R kk e x0 x1 x2 K=>by
 simp only[lW,W9,z131,D9,ajF (hF:=e),age,agf,ay,<-e]
def aph:Env:=e0 [cm,aC,aC]
def Kq:ai:=Kp.add 77 [cm,aC,aC] (gu cm aC aC ni (fun _ r K=>K [tI r] none))
theorem o45:aJ Tryz.prog Kq:=gx aph Tryz.f77 (fun R kk x0 x1 x2 K=>W5 x0 x1 x2 (fun a0=>K [tI a0] none)) o44 (ek _ _ _ _) Tryz.func77 (by kernel_rfl) rfl (fun _ _ _ _ _ _ h=>h _ _) (fun _ _ _ _ _ _=>by kernel_rfl) fun R kk e x0 x1 x2 K=>by
 simp only[ni,W5,ay]
def JD:Env:=bG.env (fun _=>[]) (fun _=>[]) [2] [(.int .i64)]
def Kr:ai:=Kq.add 192 [(.int .i64)] (cC (.int .i64) Hx (fun _ r K=>K [.aj (.pair (.int .u64) (.pair (.int .u64) .unit)) r []] none))
theorem o46:aJ Tryz.prog Kr:=cD JD Tryz.f192 (fun R kk x0 K=>ZB x0 (fun a0=>K [.aj (.pair (.int .u64) (.pair (.int .u64) .unit)) a0 []] none)) o45 (ek _ _ _ _) Tryz.func192 (by kernel_rfl) rfl (fun _ _ _ _ _ _ h=>h _ _) (fun _ _ _ _=>by kernel_rfl) fun R kk e x0 K=>by
 simp only[Hx,ZB,ay]
def Jw:Env:=bG.env (fun _=>[]) (fun _=>[]) [4] [(.pair (.int .u64) (.pair (.int .u64) .unit)),(.pair (.int .u64) (.pair (.int .u64) .unit))]
def Ks:ai:=Kr.add 80 [(.pair (.int .u64) (.pair (.int .u64) .unit)),(.pair (.int .u64) (.pair (.int .u64) .unit))] (cP (.pair (.int .u64) (.pair (.int .u64) .unit)) (.pair (.int .u64) (.pair (.int .u64) .unit)) sY (fun _ r K=>K [.aj (.pair (.int .u64) (.pair (.int .u64) .unit)) r []] none))
theorem o47:aJ Tryz.prog Ks:=cR Jw Tryz.f80 (fun R kk x0 x1 K=>Zx x0 x1 (fun a0=>K [.aj (.pair (.int .u64) (.pair (.int .u64) .unit)) a0 []] none)) o46 (ek _ _ _ _) Tryz.func80 (by kernel_rfl) rfl (fun _ _ _ _ _ _ h=>h _ _) (fun _ _ _ _ _=>by kernel_rfl) fun R kk e x0 x1 K=>by
 simp only[sY,Zx,ay]
def JC:Env:=bG.env (fun _=>[]) (fun _=>[]) [4] [(.pair (.int .u64) (.pair (.int .u64) .unit)),(.int .i64)]
def vS:ai:=Ks.add 141 [(.pair (.int .u64) (.pair (.int .u64) .unit)),(.int .i64)] (cP (.pair (.int .u64) (.pair (.int .u64) .unit)) (.int .i64) ya (fun _ r K=>K [.aj (.pair (.int .u64) (.pair (.int .u64) .unit)) r []] none))
theorem o48:aJ Tryz.prog vS:=cR JC Tryz.f141 (fun R kk x0 x1 K=>ZA x0 x1 (fun a0=>K [.aj (.pair (.int .u64) (.pair (.int .u64) .unit)) a0 []] none)) o47 (ek _ _ _ _) Tryz.func141 (by kernel_rfl) rfl (fun _ _ _ _ _ _ h=>h _ _) (fun _ _ _ _ _=>by kernel_rfl) fun R kk e x0 x1 K=>by
 simp only[ya,ZA,ay]
def oh:Env:=bG.env (fun i=>bif Nat.beq i 3 then [2,3,6,7,8] else []) (fun i=>bif Nat.beq i 3 then [2,3] else []) [2] [(.sl 3 (.int .i64))]
def Zu(a:(List Int))(b c:Int)(d e:ax):Option R:=aw (ev oh (vS R) kk (sub [1,1,0,1,0,0] (cd Tryz.f78))) [2,3,6,7,8] [2,3] k ⟨uS 2 ([.ptr 3 (.pair (.int .u64) (.pair (.int .u64) .unit)) []]::[.ptr 4 (.pair (.int .u64) (.pair (.int .u64) .unit)) []]::uS 2 ([.aj (.sl 3 (.int .i64)) a []]::[tI b]::[tI c]::uS 8 [])),nS 3 ((some ⟨(.pair (.int .u64) (.pair (.int .u64) .unit)),d,[]⟩)::(some ⟨(.pair (.int .u64) (.pair (.int .u64) .unit)),e,[]⟩)::nS 13 [])⟩ J
def zs4(a b:ax):State:=⟨uS 2 ([.ptr 3 (.pair (.int .u64) (.pair (.int .u64) .unit)) []]::[.ptr 4 (.pair (.int .u64) (.pair (.int .u64) .unit)) []]::uS 13 []),nS 3 ((some ⟨(.pair (.int .u64) (.pair (.int .u64) .unit)),a,[]⟩)::(some ⟨(.pair (.int .u64) (.pair (.int .u64) .unit)),b,[]⟩)::nS 13 [])⟩
def Qq:KX R:=(zk 0 (aF oh (vS R) kk (sub [1,1,1] (cd Tryz.f78)) (aD oh Tryz.f78.results.toList none K)))
theorem apE(a:(List Int))(b c:Int)(d e:ax):Zu R kk (k+1) J a b c d e=
 SS a b c d e (Zu R kk k J) (fun a0 a1=>J (.exit 0) (zs4 a0 a1)):=by kernel_rfl
theorem aj3(a b:ax):Qq R kk K (.exit 0) (zs4 a b)=
 Zw a b (fun a0=>K [.aj (.pair (.int .u64) (.pair (.int .u64) .unit)) a0 []] none):=by kernel_rfl
theorem anl{kk:Nat}(hF:kk=ah)(t6:(List Int))(t7 t8:Int)(cA cU:ax):Zu R kk k J t6 t7 t8 cA cU=(A6 k t6 t7 t8 cA cU).bind fun e=>J (.exit 0) (zs4 e.1 e.2):=by
 induction k generalizing t6 t7 t8 cA cU with
 |zero=>rfl
 |succ k ih=>
  rw[apE]
  simp only[A6,SS,ih,ay]
def Kt:ai:=vS.add 78 [(.sl 3 (.int .i64))] (cC (.sl 3 (.int .i64)) uB (fun _ r K=>K [.aj (.pair (.int .u64) (.pair (.int .u64) .unit)) r []] none))
theorem o49:aJ Tryz.prog Kt:=cD oh Tryz.f78 (fun R kk x0 K=>Zv x0 (Zu R kk kk (Qq R kk K))) o48 (ek _ _ _ _) Tryz.func78 (by kernel_rfl) rfl (fun _ _ _ _ _ _ h=>h _ _) (fun _ _ _ _=>by kernel_rfl) fun R kk e x0 K=>by
 simp only[uB,Zv,Zw,anl (hF:=e),aj3,ay,<-e]
def Jv:Env:=bG.env (fun _=>[]) (fun _=>[]) [4] [(.pair (.int .u64) (.pair (.int .u64) .unit)),(.pair (.int .u64) (.pair (.int .u64) .unit))]
def l5:ai:=Kt.add 79 [(.pair (.int .u64) (.pair (.int .u64) .unit)),(.pair (.int .u64) (.pair (.int .u64) .unit))] (cP (.pair (.int .u64) (.pair (.int .u64) .unit)) (.pair (.int .u64) (.pair (.int .u64) .unit)) rj (fun _ r K=>K [.aj (.pair (.int .u64) (.pair (.int .u64) .unit)) r []] none))
theorem o50:aJ Tryz.prog l5:=cR Jv Tryz.f79 (fun R kk x0 x1 K=>SU x0 x1 (fun a0=>K [.aj (.pair (.int .u64) (.pair (.int .u64) .unit)) a0 []] none)) o49 (ek _ _ _ _) Tryz.func79 (by kernel_rfl) rfl (fun _ _ _ _ _ _ h=>h _ _) (fun _ _ _ _ _=>by kernel_rfl) fun R kk e x0 x1 K=>by
 simp only[rj,SU,ay]
def z59:Env:=bG.env (fun i=>bif Nat.beq i 2 then [3,4,5,26,27,28] else bif Nat.beq i 12 then [3,4,5,13,46,48,49,50] else bif Nat.beq i 24 then [4,5,16,17,77,78,79] else []) (fun i=>bif Nat.beq i 2 then [3,4,5,6,7,8] else bif Nat.beq i 12 then [3,4,5,6,7,8] else bif Nat.beq i 24 then [6,7,8] else []) [] [bN,aC,aC]
def XO(a:ns)(b c:Int)(d:al)(e f:ag):Option R:=aw (ev z59 (l5 R) kk (sub [1,0,1,0,0] (cd Tryz.f31))) [3,4,5,26,27,28] [3,4,5,6,7,8] k ⟨uS 3 ([.ptr 4 bN []]::[.ptr 5 aC []]::[.ptr 6 aC []]::uS 20 ([.aj (.sl 24 aC) a [[]]]::[tI b]::[tI c]::uS 92 [])),nS 4 ((some ⟨bN,d,[]⟩)::(some ⟨aC,e,[]⟩)::(some ⟨aC,f,[]⟩)::nS 115 [])⟩ J
def zhy(a b c:Int)(d:al)(e f:ag):State:=⟨uS 3 ([.ptr 4 bN []]::[.ptr 5 aC []]::[.ptr 6 aC []]::[tI a]::[tI b]::[tI c]::uS 112 []),nS 4 ((some ⟨bN,d,[]⟩)::(some ⟨aC,e,[]⟩)::(some ⟨aC,f,[]⟩)::nS 115 [])⟩
def zhz(a:al)(b c:ag):State:=⟨uS 3 ([.ptr 4 bN []]::[.ptr 5 aC []]::[.ptr 6 aC []]::uS 115 []),nS 4 ((some ⟨bN,a,[]⟩)::(some ⟨aC,b,[]⟩)::(some ⟨aC,c,[]⟩)::nS 115 [])⟩
def EB:KX R:=(zk 0 (aF z59 (l5 R) kk (sub [1,1] (cd Tryz.f31)) (aD z59 Tryz.f31.results.toList none K)))
def XP(a:aK)(b c:Int)(d:al)(e f:ag)(g:gE):Option R:=aw (ev z59 (l5 R) kk (sub [1,1,1,1,0,1,0,0] (cd Tryz.f31))) [3,4,5,13,46,48,49,50] [3,4,5,6,7,8] k ⟨uS 3 ([.ptr 4 bN []]::[.ptr 5 aC []]::[.ptr 6 aC []]::uS 7 ([.ptr 47 (.aZ .mp .str .bool) []]::uS 32 ([.ptr 47 (.aZ .mp .str .bool) []]::uS 1 ([.aj (.sl 116 (.pair .str (.pair .str .unit))) a []]::[tI b]::[tI c]::uS 70 [])))),nS 4 ((some ⟨bN,d,[]⟩)::(some ⟨aC,e,[]⟩)::(some ⟨aC,f,[]⟩)::nS 40 ((some ⟨(.aZ .mp .str .bool),g,[]⟩)::nS 74 []))⟩ J
def zi0(a b c:Int)(d:al)(e f:ag):State:=⟨uS 3 ([.ptr 4 bN []]::[.ptr 5 aC []]::[.ptr 6 aC []]::[tI a]::[tI b]::[tI c]::uS 112 []),nS 4 ((some ⟨bN,d,[]⟩)::(some ⟨aC,e,[]⟩)::(some ⟨aC,f,[]⟩)::nS 115 [])⟩
def zi1(a:al)(b c:ag):State:=⟨uS 3 ([.ptr 4 bN []]::[.ptr 5 aC []]::[.ptr 6 aC []]::uS 115 []),nS 4 ((some ⟨bN,a,[]⟩)::(some ⟨aC,b,[]⟩)::(some ⟨aC,c,[]⟩)::nS 115 [])⟩
def EC:KX R:=(zk 2 (aF z59 (l5 R) kk (sub [1,1,1,1,1] (cd Tryz.f31)) (aD z59 Tryz.f31.results.toList none K)))
def XQ(a:cz)(b c:Int)(d e:ag)(f g:ax):Option R:=aw (ev z59 (l5 R) kk (sub [1,1,1,1,1,1,1,0,1,0,0] (cd Tryz.f31))) [4,5,16,17,77,78,79] [6,7,8] k ⟨uS 4 ([.ptr 5 aC []]::[.ptr 6 aC []]::uS 10 ([.ptr 17 (.pair (.int .u64) (.pair (.int .u64) .unit)) []]::[.ptr 18 (.pair (.int .u64) (.pair (.int .u64) .unit)) []]::uS 59 ([.aj (.sl 59 cm) a []]::[tI b]::[tI c]::uS 41 []))),nS 5 ((some ⟨aC,d,[]⟩)::(some ⟨aC,e,[]⟩)::nS 10 ((some ⟨(.pair (.int .u64) (.pair (.int .u64) .unit)),f,[]⟩)::(some ⟨(.pair (.int .u64) (.pair (.int .u64) .unit)),g,[]⟩)::nS 103 []))⟩ J
def zi2(a b c:Int):State:=⟨uS 6 ([tI a]::[tI b]::[tI c]::uS 112 []),nS 122 []⟩
def zi3:State:=⟨uS 121 [],nS 122 []⟩
def ED:KX R:=(zk 5 (aF z59 (l5 R) kk (sub [1,1,1,1,1,1,1,1] (cd Tryz.f31)) (aD z59 Tryz.f31.results.toList none K)))
theorem ana(a:ns)(b c:Int)(d:al)(e f:ag):XO R kk (k+1) J a b c d e f=
 XS a b c d e f (fun a0 a1 a2 a3 a4 a5=>J .ret (zhy a0 a1 a2 a3 a4 a5)) (XO R kk k J) (fun a0 a1 a2=>J (.exit 0) (zhz a0 a1 a2)):=by kernel_rfl
theorem agy(a b c:Int)(d:al)(e f:ag):EB R kk K .ret (zhy a b c d e f)=
 EE a b c d e f (fun a0 a1 a2=>K [tI a0,tI a1,tI a2] none):=by kernel_rfl
theorem agz(a:al)(b c:ag):EB R kk K (.exit 0) (zhz a b c)=
 XT a b c (fun a0 a1 a2=>K [tI a0,tI a1,tI a2] none) (XP R kk kk (EC R kk K)):=by kernel_rfl
theorem anb(a:aK)(b c:Int)(d:al)(e f:ag)(g:gE):XP R kk (k+1) J a b c d e f g=
 EF a b c d e f g (fun a0 a1 a2 a3 a4 a5=>J .ret (zi0 a0 a1 a2 a3 a4 a5)) (XP R kk k J) (fun a0 a1 a2=>J (.exit 2) (zi1 a0 a1 a2)):=by kernel_rfl
theorem agA(a b c:Int)(d:al)(e f:ag):EC R kk K .ret (zi0 a b c d e f)=
 EG a b c d e f (fun a0 a1 a2=>K [tI a0,tI a1,tI a2] none):=by kernel_rfl
theorem agB(a:al)(b c:ag):EC R kk K (.exit 2) (zi1 a b c)=
 XU a b c (fun a0 a1 a2=>K [tI a0,tI a1,tI a2] none) (XQ R kk kk (ED R kk K)):=by kernel_rfl
theorem anc(a:cz)(b c:Int)(d e:ag)(f g:ax):XQ R kk (k+1) J a b c d e f g=
 EH a b c d e f g (fun a0 a1 a2=>J .ret (zi2 a0 a1 a2)) (XQ R kk k J) (J (.exit 5) (zi3)):=by kernel_rfl
theorem agC(a b c:Int):ED R kk K .ret (zi2 a b c)=
 EI a b c (fun a0 a1 a2=>K [tI a0,tI a1,tI a2] none):=by kernel_rfl
theorem agD:ED R kk K (.exit 5) (zi3)=
 z141 (fun a0 a1 a2=>K [tI a0,tI a1,tI a2] none):=by kernel_rfl
theorem ajS{kk:Nat}(hF:kk=ah)(t26:ns)(t27 t28:Int)(cU:al)(bQ cV:ag):XO R kk k J t26 t27 t28 cU bQ cV=(Ir k t26 t27 t28 cU bQ cV).bind fun e=>(Sum.elim (fun(we:lg)=>J .ret (zhy we.1 we.2.1 we.2.2.1 we.2.2.2.1 we.2.2.2.2.1 we.2.2.2.2.2)) (fun(we:lf)=>J (.exit 0) (zhz we.1 we.2.1 we.2.2)) e):=by
 induction k generalizing t26 t27 t28 cU bQ cV with
 |zero=>rfl
 |succ k ih=>
  rw[ana]
  simp only[Ir,XS,ih,ay]
theorem ajT{kk:Nat}(hF:kk=ah)(t48:aK)(t49 t50:Int)(cU:al)(bQ cV:ag)(BC:gE):XP R kk k J t48 t49 t50 cU bQ cV BC=(Is k t48 t49 t50 cU bQ cV BC).bind fun e=>(Sum.elim (fun(we:lg)=>J .ret (zi0 we.1 we.2.1 we.2.2.1 we.2.2.2.1 we.2.2.2.2.1 we.2.2.2.2.2)) (fun(we:lf)=>J (.exit 2) (zi1 we.1 we.2.1 we.2.2)) e):=by
 induction k generalizing t48 t49 t50 cU bQ cV BC with
 |zero=>rfl
 |succ k ih=>
  rw[anb]
  simp only[Is,EF,ih,ay]
theorem ajU{kk:Nat}(hF:kk=ah)(t77:cz)(t78 t79:Int)(bQ cV:ag)(jw BD:ax):XQ R kk k J t77 t78 t79 bQ cV jw BD=(Sz k t77 t78 t79 bQ cV jw BD).bind fun e=>(Sum.elim (fun(we:iw)=>J .ret (zi2 we.1 we.2.1 we.2.2)) (fun(we:Unit)=>J (.exit 5) (zi3)) e):=by
 induction k generalizing t77 t78 t79 bQ cV jw BD with
 |zero=>rfl
 |succ k ih=>
  rw[anc]
  simp only[Sz,EH,ih,ay]
def vT:ai:=l5.add 31 [bN,aC,aC] (gu bN aC aC qx (fun _ r K=>K [tI r.1,tI r.2.1,tI r.2.2] none))
theorem o51:aJ Tryz.prog vT:=gx z59 Tryz.f31 (fun R kk x0 x1 x2 K=>XR x0 x1 x2 (XO R kk kk (EB R kk K))) o50 (ek _ _ _ _) Tryz.func31 (by kernel_rfl) rfl (fun _ _ _ _ _ _ h=>h _ _) (fun _ _ _ _ _ _=>by kernel_rfl) fun R kk e x0 x1 x2 K=>by
 simp only[qx,XR,EE,XT,EG,XU,EI,z141,ajS (hF:=e),ajT (hF:=e),ajU (hF:=e),agy,agz,agA,agB,agC,agD,ay,<-e]
def Y1:Env:=bG.env (fun i=>bif Nat.beq i 4 then [1,22,23] else []) (fun i=>bif Nat.beq i 4 then [2,3,4] else []) [] [dK]
def WY(a:l7)(b:Int)(c:bC):Option R:=aw (ev Y1 (vT R) kk (sub [1,1,0,1,0,0] (cd Tryz.f11))) [1,22,23] [2,3,4] k ⟨uS 1 ([.ptr 2 dK []]::uS 20 ([.aj (.arr 2 cg) a []]::[tI b]::uS 33 [])),nS 2 ((some ⟨dK,c,[]⟩)::nS 55 [])⟩ J
def zhb(a b c:Int):State:=⟨uS 2 ([tI a]::[tI b]::[tI c]::uS 52 []),nS 58 []⟩
def zhc:State:=⟨uS 57 [],nS 58 []⟩
def D4:KX R:=(zk 0 (aF Y1 (vT R) kk (sub [1,1,1] (cd Tryz.f11)) (aD Y1 Tryz.f11.results.toList none K)))
theorem amV(a:l7)(b:Int)(c:bC):WY R kk (k+1) J a b c=
 Il a b c (fun a0 a1 a2=>J .ret (zhb a0 a1 a2)) (WY R kk k J) (J (.exit 0) (zhc)):=by kernel_rfl
theorem agc(a b c:Int):D4 R kk K .ret (zhb a b c)=
 D5 a b c (fun a0 a1 a2=>K [tI a0,tI a1,tI a2] none):=by kernel_rfl
theorem agd:D4 R kk K (.exit 0) (zhc)=
 D6 (fun a0 a1 a2=>K [tI a0,tI a1,tI a2] none):=by kernel_rfl
theorem ajC{kk:Nat}(hF:kk=ah)(t22:l7)(t23:Int)(cT:bC):WY R kk k J t22 t23 cT=(GU k t22 t23 cT).bind fun e=>(Sum.elim (fun(we:iw)=>J .ret (zhb we.1 we.2.1 we.2.2)) (fun(we:Unit)=>J (.exit 0) (zhc)) e):=by
 induction k generalizing t22 t23 cT with
 |zero=>rfl
 |succ k ih=>
  rw[amV]
  simp only[GU,Il,ih,ay]
def Ku:ai:=vT.add 11 [dK] (cC dK qv (fun _ r K=>K [tI r.1,tI r.2.1,tI r.2.2] none))
theorem o52:aJ Tryz.prog Ku:=cD Y1 Tryz.f11 (fun R kk x0 K=>WZ x0 (fun a0 a1 a2=>K [tI a0,tI a1,tI a2] none) (WY R kk kk (D4 R kk K))) o51 (ek _ _ _ _) Tryz.func11 (by kernel_rfl) rfl (fun _ _ _ _ _ _ h=>h _ _) (fun _ _ _ _=>by kernel_rfl) fun R kk e x0 K=>by
 simp only[qv,WZ,D5,D6,ajC (hF:=e),agc,agd,ay,<-e]
def aad:Env:=e0 [(.int .i64)]
def vU:ai:=Ku.add 163 [(.int .i64)] (cC (.int .i64) Q2 (fun _ r K=>K [tI r] none))
theorem o53:aJ Tryz.prog vU:=cD aad Tryz.f163 (fun R kk x0 K=>oe x0 (fun a0=>K [tI a0] none)) o52 (ek _ _ _ _) Tryz.func163 (by kernel_rfl) rfl (fun _ _ _ _ _ _ h=>h _ _) (fun _ _ _ _=>by kernel_rfl) fun R kk e x0 K=>by
 simp only[Q2,oe,ay]
def vm:Env:=bG.env (fun i=>bif Nat.beq i 7 then [0,1,7,30,31] else []) (fun i=>bif Nat.beq i 7 then [1,4,5,6,7] else []) [] [.str,(.int .i64)]
def n0(a:ByteArray)(b:Int)(c:(List Int))(d e:Int):Option R:=aw (ev vm (vU R) kk (sub [1,1,1,0,1,0,0] (cd Tryz.f164))) [0,1,7,30,31] [1,4,5,6,7] k ⟨[tS a]::[tI b]::uS 5 ([.aj (.sl 5 (.int .u8)) c [[]]]::uS 22 ([tI d]::[tI e]::uS 43 [])),nS 76 []⟩ J
def zzd(a:Int)(b:ByteArray)(c d:Int)(e:(List Int)):State:=⟨uS 1 ([tI a]::uS 2 ([tS b]::[tI c]::[tI d]::[.aj (.sl 5 (.int .u8)) e [[]]]::uS 67 [])),nS 76 []⟩
def zze(a:Int)(b:(List Int)):State:=⟨uS 1 ([tI a]::uS 5 ([.aj (.sl 5 (.int .u8)) b [[]]]::uS 67 [])),nS 76 []⟩
def rP:KX R:=(zk 1 (aF vm (vU R) kk (sub [1,1,1,1] (cd Tryz.f164)) (aD vm Tryz.f164.results.toList none K)))
theorem Jb(a:ByteArray)(b:Int)(c:(List Int))(d e:Int):n0 R kk (k+1) J a b c d e=
 lP a b c d e (fun a0 a1 a2 a3 a4=>J .ret (zzd a0 a1 a2 a3 a4)) (n0 R kk k J) (fun a0 a1=>J (.exit 1) (zze a0 a1)):=by kernel_rfl
theorem al7(a:Int)(b:ByteArray)(c d:Int)(e:(List Int)):rP R kk K .ret (zzd a b c d e)=
 rQ a b c d e (fun a0 a1 a2=>K [tS a0,tI a1,tI a2] none):=by kernel_rfl
theorem al8(a:Int)(b:(List Int)):rP R kk K (.exit 1) (zze a b)=
 n5 a b (fun a0 a1 a2=>K [tS a0,tI a1,tI a2] none):=by kernel_rfl
theorem aoF{kk:Nat}(hF:kk=ah)(jv:ByteArray)(lu:Int)(t7:(List Int))(t30 t31:Int):n0 R kk k J jv lu t7 t30 t31=(iq k jv lu t7 t30 t31).bind fun e=>(Sum.elim (fun(we:(Int×ByteArray×Int×Int×(List Int)))=>J .ret (zzd we.1 we.2.1 we.2.2.1 we.2.2.2.1 we.2.2.2.2)) (fun(we:(Int×(List Int)))=>J (.exit 1) (zze we.1 we.2)) e):=by
 induction k generalizing jv lu t7 t30 t31 with
 |zero=>rfl
 |succ k ih=>
  rw[Jb]
  simp only[iq,lP,ih,ay]
def Kv:ai:=vU.add 164 [.str,(.int .i64)] (cP .str (.int .i64) Q0 (fun _ r K=>K [tS r.1,tI r.2.1,tI r.2.2] none))
theorem o54:aJ Tryz.prog Kv:=cR vm Tryz.f164 (fun R kk x0 x1 K=>n4 x0 x1 (fun a0 a1 a2=>K [tS a0,tI a1,tI a2] none) (n0 R kk kk (rP R kk K))) o53 (ek _ _ _ _) Tryz.func164 (by kernel_rfl) rfl (fun _ _ _ _ _ _ h=>h _ _) (fun _ _ _ _ _=>by kernel_rfl) fun R kk e x0 x1 K=>by
 simp only[Q0,n4,rQ,n5,aoF (hF:=e),al7,al8,ay,<-e]
def aps:Env:=e0 [aC,.str]
def Kw:ai:=Kv.add 104 [aC,.str] (cP aC .str sR (fun _ r K=>K [tS r.1,tI r.2.1,tI r.2.2] none))
theorem o55:aJ Tryz.prog Kw:=cR aps Tryz.f104 (fun R kk x0 x1 K=>Xu x0 x1 (fun a0 a1 a2=>K [tS a0,tI a1,tI a2] none)) o54 (ek _ _ _ _) Tryz.func104 (by kernel_rfl) rfl (fun _ _ _ _ _ _ h=>h _ _) (fun _ _ _ _ _=>by kernel_rfl) fun R kk e x0 x1 K=>by
 simp only[sR,Xu,ay]
def aah:Env:=e0 [(.int .i64)]
def Kx:ai:=Kw.add 155 [(.int .i64)] (cC (.int .i64) Q9 (fun _ r K=>K [tB r] none))
theorem o56:aJ Tryz.prog Kx:=cD aah Tryz.f155 (fun R kk x0 K=>l4 x0 (fun a0=>K [tB a0] none)) o55 (ek _ _ _ _) Tryz.func155 (by kernel_rfl) rfl (fun _ _ _ _ _ _ h=>h _ _) (fun _ _ _ _=>by kernel_rfl) fun R kk e x0 K=>by
 simp only[Q9,l4,ay]
def ao0:Env:=e0 [(.int .u8)]
def vV:ai:=Kx.add 205 [(.int .u8)] (cC (.int .u8) sA (fun _ r K=>K [tI r.1,tB r.2] none))
theorem o57:aJ Tryz.prog vV:=cD ao0 Tryz.f205 (fun R kk x0 K=>Dy x0 (fun a0 a1=>K [tI a0,tB a1] none)) o56 (ek _ _ _ _) Tryz.func205 (by kernel_rfl) rfl (fun _ _ _ _ _ _ h=>h _ _) (fun _ _ _ _=>by kernel_rfl) fun R kk e x0 K=>by
 simp only[sA,Dy,ay]
def YR:Env:=bG.env (fun i=>bif Nat.beq i 4 then [0,5,6,7] else []) (fun i=>bif Nat.beq i 4 then [0,2,3,4,5] else []) [] [.str]
def Wk(a:ByteArray)(b:(List Int))(c d:Int):Option R:=aw (ev YR (vV R) kk (sub [1,1,1,0,1,0,0] (cd Tryz.f170))) [0,5,6,7] [0,2,3,4,5] k ⟨[tS a]::uS 4 ([.aj (.sl 5 (.int .u8)) b [[]]]::[tI c]::[tI d]::uS 44 []),nS 53 []⟩ J
def zgs(a b:ByteArray)(c:Int)(d:Bool)(e:(List Int)):State:=⟨[tS a]::uS 1 ([tS b]::[tI c]::[tB d]::[.aj (.sl 5 (.int .u8)) e [[]]]::uS 46 []),nS 53 []⟩
def zgt(a:ByteArray)(b:(List Int)):State:=⟨[tS a]::uS 4 ([.aj (.sl 5 (.int .u8)) b [[]]]::uS 46 []),nS 53 []⟩
def Dz:KX R:=(zk 0 (aF YR (vV R) kk (sub [1,1,1,1] (cd Tryz.f170)) (aD YR Tryz.f170.results.toList none K)))
theorem amJ(a:ByteArray)(b:(List Int))(c d:Int):Wk R kk (k+1) J a b c d=
 Sf a b c d (fun a0 a1 a2 a3 a4=>J .ret (zgs a0 a1 a2 a3 a4)) (Wk R kk k J) (fun a0 a1=>J (.exit 0) (zgt a0 a1)):=by kernel_rfl
theorem afT(a b:ByteArray)(c:Int)(d:Bool)(e:(List Int)):Dz R kk K .ret (zgs a b c d e)=
 DA a b c d e (fun a0 a1 a2=>K [tS a0,tI a1,tB a2] none):=by kernel_rfl
theorem afU(a:ByteArray)(b:(List Int)):Dz R kk K (.exit 0) (zgt a b)=
 Wm a b (fun a0 a1 a2=>K [tS a0,tI a1,tB a2] none):=by kernel_rfl
theorem ajq{kk:Nat}(hF:kk=ah)(dw:ByteArray)(t5:(List Int))(t6 t7:Int):Wk R kk k J dw t5 t6 t7=(GN k dw t5 t6 t7).bind fun e=>(Sum.elim (fun(we:(ByteArray×ByteArray×Int×Bool×(List Int)))=>J .ret (zgs we.1 we.2.1 we.2.2.1 we.2.2.2.1 we.2.2.2.2)) (fun(we:(ByteArray×(List Int)))=>J (.exit 0) (zgt we.1 we.2)) e):=by
 induction k generalizing dw t5 t6 t7 with
 |zero=>rfl
 |succ k ih=>
  rw[amJ]
  simp only[GN,Sf,ih,ay]
def Ky:ai:=vV.add 170 [.str] (cC .str fZ (fun _ r K=>K [tS r.1,tI r.2.1,tB r.2.2] none))
theorem o58:aJ Tryz.prog Ky:=cD YR Tryz.f170 (fun R kk x0 K=>Wl x0 (Wk R kk kk (Dz R kk K))) o57 (ek _ _ _ _) Tryz.func170 (by kernel_rfl) rfl (fun _ _ _ _ _ _ h=>h _ _) (fun _ _ _ _=>by kernel_rfl) fun R kk e x0 K=>by
 simp only[fZ,Wl,DA,Wm,ajq (hF:=e),afT,afU,ay,<-e]
def Jc:Env:=bG.env (fun _=>[]) (fun _=>[]) [6] [(.int .i64),.str,(.int .i64)]
def vW:ai:=Ky.add 165 [(.int .i64),.str,(.int .i64)] (gu (.int .i64) .str (.int .i64) Hv (fun _ r K=>K [.aj (.arr 8 (.int .u8)) r.1 [],tI r.2.1,tI r.2.2] none))
theorem o59:aJ Tryz.prog vW:=gx Jc Tryz.f165 (fun R kk x0 x1 x2 K=>Yr x0 x1 x2 (fun a0 a1 a2=>K [.aj (.arr 8 (.int .u8)) a0 [],tI a1,tI a2] none)) o58 (ek _ _ _ _) Tryz.func165 (by kernel_rfl) rfl (fun _ _ _ _ _ _ h=>h _ _) (fun _ _ _ _ _ _=>by kernel_rfl) fun R kk e x0 x1 x2 K=>by
 simp only[Hv,Yr,ay]
def vD:Env:=bG.env (fun i=>bif Nat.beq i 3 then [3,6,7] else []) (fun i=>bif Nat.beq i 3 then [3] else []) [] [(.arr 8 (.int .u8))]
def oI(a:Int)(b:(List Int))(c:Int):Option R:=aw (ev vD (vW R) kk (sub [1,1,0,1,0,0] (cd Tryz.f166))) [3,6,7] [3] k ⟨uS 3 ([.aj (.int .u64) a []]::uS 2 ([.aj (.arr 8 (.int .u8)) b []]::[tI c]::uS 9 [])),nS 18 []⟩ J
def EV(a:Int):State:=⟨uS 3 ([.aj (.int .u64) a []]::uS 13 []),nS 18 []⟩
def yf:KX R:=(zk 0 (aF vD (vW R) kk (sub [1,1,1] (cd Tryz.f166)) (aD vD Tryz.f166.results.toList none K)))
theorem JN(a:Int)(b:(List Int))(c:Int):oI R kk (k+1) J a b c=
 lY a b c (oI R kk k J) (fun a0=>J (.exit 0) (EV a0)):=by kernel_rfl
theorem anC(a:Int):yf R kk K (.exit 0) (EV a)=
 sZ a (fun a0=>K [.aj (.int .u64) a0 []] none):=by kernel_rfl
theorem apP{kk:Nat}(hF:kk=ah)(t3:Int)(t6:(List Int))(t7:Int):oI R kk k J t3 t6 t7=(jr k t3 t6 t7).bind fun e=>J (.exit 0) (EV e):=by
 induction k generalizing t3 t6 t7 with
 |zero=>rfl
 |succ k ih=>
  rw[JN]
  simp only[jr,lY,ih,ay]
def Kz:ai:=vW.add 166 [(.arr 8 (.int .u8))] (cC (.arr 8 (.int .u8)) Q7 (fun _ r K=>K [.aj (.int .u64) r []] none))
theorem o60:aJ Tryz.prog Kz:=cD vD Tryz.f166 (fun R kk x0 K=>oJ x0 (oI R kk kk (yf R kk K))) o59 (ek _ _ _ _) Tryz.func166 (by kernel_rfl) rfl (fun _ _ _ _ _ _ h=>h _ _) (fun _ _ _ _=>by kernel_rfl) fun R kk e x0 K=>by
 simp only[Q7,oJ,sZ,apP (hF:=e),anC,ay,<-e]
def Ju:Env:=bG.env (fun _=>[]) (fun _=>[]) [4] [(.int .u64),(.int .u64)]
def KA:ai:=Kz.add 167 [(.int .u64),(.int .u64)] (cP (.int .u64) (.int .u64) Tv (fun _ r K=>K [.aj (.pair (.int .u64) (.pair (.int .u64) .unit)) r []] none))
theorem o61:aJ Tryz.prog KA:=cR Ju Tryz.f167 (fun R kk x0 x1 K=>z193 x0 x1 (fun a0=>K [.aj (.pair (.int .u64) (.pair (.int .u64) .unit)) a0 []] none)) o60 (ek _ _ _ _) Tryz.func167 (by kernel_rfl) rfl (fun _ _ _ _ _ _ h=>h _ _) (fun _ _ _ _ _=>by kernel_rfl) fun R kk e x0 x1 K=>by
 simp only[Tv,z193,ay]
def aaf:Env:=bG.env (fun _=>[]) (fun _=>[]) [6] [(.int .i64),.str,(.int .i64)]
def KB:ai:=KA.add 105 [(.int .i64),.str,(.int .i64)] (gu (.int .i64) .str (.int .i64) Q5 (fun _ r K=>K [.aj (.pair (.int .u64) (.pair (.int .u64) .unit)) r.1 [],tI r.2.1,tI r.2.2] none))
theorem o62:aJ Tryz.prog KB:=gx aaf Tryz.f105 (fun R kk x0 x1 x2 K=>om x0 x1 x2 (fun a0 a1 a2=>K [.aj (.pair (.int .u64) (.pair (.int .u64) .unit)) a0 [],tI a1,tI a2] none)) o61 (ek _ _ _ _) Tryz.func105 (by kernel_rfl) rfl (fun _ _ _ _ _ _ h=>h _ _) (fun _ _ _ _ _ _=>by kernel_rfl) fun R kk e x0 x1 x2 K=>by
 simp only[Q5,om,ay]
def ao3:Env:=e0 [(.int .u64)]
def KC:ai:=KB.add 203 [(.int .u64)] (cC (.int .u64) sB (fun _ r K=>K [tI r] none))
theorem o63:aJ Tryz.prog KC:=cD ao3 Tryz.f203 (fun R kk x0 K=>DC x0 (fun a0=>K [tI a0] none)) o62 (ek _ _ _ _) Tryz.func203 (by kernel_rfl) rfl (fun _ _ _ _ _ _ h=>h _ _) (fun _ _ _ _=>by kernel_rfl) fun R kk e x0 K=>by
 simp only[sB,DC,ay]
def ao2:Env:=e0 [(.int .u64)]
def KD:ai:=KC.add 168 [(.int .u64)] (cC (.int .u64) lT (fun _ r K=>K [tI r] none))
theorem o64:aJ Tryz.prog KD:=cD ao2 Tryz.f168 (fun R kk x0 K=>Wp x0 (fun a0=>K [tI a0] none)) o63 (ek _ _ _ _) Tryz.func168 (by kernel_rfl) rfl (fun _ _ _ _ _ _ h=>h _ _) (fun _ _ _ _=>by kernel_rfl) fun R kk e x0 K=>by
 simp only[lT,Wp,ay]
def JA:Env:=e0 [(.pair (.int .u64) (.pair (.int .u64) .unit)),(.int .i64)]
def KE:ai:=KD.add 106 [(.pair (.int .u64) (.pair (.int .u64) .unit)),(.int .i64)] (cP (.pair (.int .u64) (.pair (.int .u64) .unit)) (.int .i64) Hw (fun _ r K=>K [tI r] none))
theorem o65:aJ Tryz.prog KE:=cR JA Tryz.f106 (fun R kk x0 x1 K=>Zz x0 x1 (fun a0=>K [tI a0] none)) o64 (ek _ _ _ _) Tryz.func106 (by kernel_rfl) rfl (fun _ _ _ _ _ _ h=>h _ _) (fun _ _ _ _ _=>by kernel_rfl) fun R kk e x0 x1 K=>by
 simp only[Hw,Zz,ay]
def Jh:Env:=e0 [(.int .i64)]
def KG:ai:=KE.add 160 [(.int .i64)] (cC (.int .i64) Bk (fun _ r K=>K [tB r] none))
theorem o66:aJ Tryz.prog KG:=cD Jh Tryz.f160 (fun R kk x0 K=>SN x0 (fun a0=>K [tB a0] none)) o65 (ek _ _ _ _) Tryz.func160 (by kernel_rfl) rfl (fun _ _ _ _ _ _ h=>h _ _) (fun _ _ _ _=>by kernel_rfl) fun R kk e x0 K=>by
 simp only[Bk,SN,ay]
def apb:Env:=e0 [(.int .i64),(.int .i64)]
def vX:ai:=KG.add 200 [(.int .i64),(.int .i64)] (cP (.int .i64) (.int .i64) qt (fun _ r K=>K [tB r] none))
theorem o67:aJ Tryz.prog vX:=cR apb Tryz.f200 (fun R kk x0 x1 K=>Sl x0 x1 (fun a0=>K [tB a0] none)) o66 (ek _ _ _ _) Tryz.func200 (by kernel_rfl) rfl (fun _ _ _ _ _ _ h=>h _ _) (fun _ _ _ _ _=>by kernel_rfl) fun R kk e x0 x1 K=>by
 simp only[qt,Sl,ay]
def od:Env:=bG.env (fun i=>bif Nat.beq i 5 then [4,20] else []) (fun i=>bif Nat.beq i 5 then [4] else []) [] [.str]
def Zn(a:Int)(b:l6):Option R:=aw (ev od (vX R) kk (sub [1,1,1,0,1,0,0] (cd Tryz.f204))) [4,20] [4] k ⟨uS 4 ([tI a]::uS 15 ([.ptr 21 (.aZ .iter .unit .unit) []]::uS 10 [])),nS 21 ((some ⟨(.aZ .iter .unit .unit),b,[]⟩)::nS 10 [])⟩ J
def zs2(a:Int):State:=⟨uS 4 ([tI a]::uS 26 []),nS 32 []⟩
def Qo:KX R:=(zk 0 (aF od (vX R) kk (sub [1,1,1,1] (cd Tryz.f204)) (aD od Tryz.f204.results.toList none K)))
theorem apC(a:Int)(b:l6):Zn R kk (k+1) J a b=
 Zp a b (Zn R kk k J) (fun a0=>J (.exit 0) (zs2 a0)):=by kernel_rfl
theorem aj1(a:Int):Qo R kk K (.exit 0) (zs2 a)=
 Fv a (fun a0 a1=>K [tI a0,tB a1] none):=by kernel_rfl
theorem anj{kk:Nat}(hF:kk=ah)(t4:Int)(jx:l6):Zn R kk k J t4 jx=(IF k t4 jx).bind fun e=>J (.exit 0) (zs2 e):=by
 induction k generalizing t4 jx with
 |zero=>rfl
 |succ k ih=>
  rw[apC]
  simp only[IF,Zp,ih,ay]
def KH:ai:=vX.add 204 [.str] (cC .str x8 (fun _ r K=>K [tI r.1,tB r.2] none))
theorem o68:aJ Tryz.prog KH:=cD od Tryz.f204 (fun R kk x0 K=>Zo x0 (fun a0 a1=>K [tI a0,tB a1] none) (Zn R kk kk (Qo R kk K))) o67 (ek _ _ _ _) Tryz.func204 (by kernel_rfl) rfl (fun _ _ _ _ _ _ h=>h _ _) (fun _ _ _ _=>by kernel_rfl) fun R kk e x0 K=>by
 simp only[x8,Zo,Fv,anj (hF:=e),aj1,ay,<-e]
def apa:Env:=e0 [(.int .i64),(.int .i64),.str,(.int .i64)]
def KI:ai:=KH.add 169 [(.int .i64),(.int .i64),.str,(.int .i64)] (xf (.int .i64) (.int .i64) .str (.int .i64) sG (fun _ r K=>K [tI r.1,tI r.2.1,tI r.2.2] none))
theorem o69:aJ Tryz.prog KI:=AD apa Tryz.f169 (fun R kk x0 x1 x2 x3 K=>WD x0 x1 x2 x3 (fun a0 a1 a2=>K [tI a0,tI a1,tI a2] none)) o68 (ek _ _ _ _) Tryz.func169 (by kernel_rfl) rfl (fun _ _ _ _ _ _ h=>h _ _) (fun _ _ _ _ _ _ _=>by kernel_rfl) fun R kk e x0 x1 x2 x3 K=>by
 simp only[sG,WD,ay]
def Jg:Env:=e0 [(.int .i64),(.int .i64)]
def KJ:ai:=KI.add 162 [(.int .i64),(.int .i64)] (cP (.int .i64) (.int .i64) km (fun _ r K=>K [tI r] none))
theorem o70:aJ Tryz.prog KJ:=cR Jg Tryz.f162 (fun R kk x0 x1 K=>YH x0 x1 (fun a0=>K [tI a0] none)) o69 (ek _ _ _ _) Tryz.func162 (by kernel_rfl) rfl (fun _ _ _ _ _ _ h=>h _ _) (fun _ _ _ _ _=>by kernel_rfl) fun R kk e x0 x1 K=>by
 simp only[km,YH,ay]
def Je:Env:=e0 [(.int .i64),y9,.str,(.int .i64)]
def vY:ai:=KJ.add 107 [(.int .i64),y9,.str,(.int .i64)] (xf (.int .i64) y9 .str (.int .i64) Jd (fun _ r K=>K [tS r.1,tI r.2.1,tI r.2.2] none))
theorem o71:aJ Tryz.prog vY:=AD Je Tryz.f107 (fun R kk x0 x1 x2 x3 K=>Yz x0 x1 x2 x3 (fun a0 a1 a2=>K [tS a0,tI a1,tI a2] none)) o70 (ek _ _ _ _) Tryz.func107 (by kernel_rfl) rfl (fun _ _ _ _ _ _ h=>h _ _) (fun _ _ _ _ _ _ _=>by kernel_rfl) fun R kk e x0 x1 x2 x3 K=>by
 simp only[Jd,Yz,ay]
def Zb:Env:=bG.env (fun i=>bif Nat.beq i 13 then [1,2,4,5,6,10,12,13] else []) (fun i=>bif Nat.beq i 13 then [1,4,5,6,10] else []) [4,5] [aC,.str]
def Xs(a:ByteArray)(b c:Int)(d:ag)(e:af)(f:ax)(g:af)(h:ax):Option R:=aw (ev Zb (vY R) kk (sub [1,1,1,1,1,1,1,1,0,1,0,0] (cd Tryz.f39))) [1,2,4,5,6,10,12,13] [1,4,5,6,10] k ⟨uS 1 ([tS a]::[.ptr 3 aC []]::uS 1 ([.ptr 5 y5 []]::[.ptr 6 (.pair (.int .i64) (.pair (.int .i64) .unit)) []]::[.ptr 7 y5 []]::uS 3 ([tI b]::uS 1 ([.ptr 13 (.pair (.int .u64) (.pair (.int .u64) .unit)) []]::[tI c]::uS 93 [])))),nS 3 ((some ⟨aC,d,[]⟩)::nS 1 ((some ⟨y5,e,[[1]]⟩)::(some ⟨(.pair (.int .i64) (.pair (.int .i64) .unit)),f,[]⟩)::(some ⟨y5,g,[[1]]⟩)::nS 5 ((some ⟨(.pair (.int .u64) (.pair (.int .u64) .unit)),h,[]⟩)::nS 94 [])))⟩ J
def zhq(a:ByteArray)(b:Int)(c:af)(d:ax)(e:af):State:=⟨uS 1 ([tS a]::uS 2 ([.ptr 5 y5 []]::[.ptr 6 (.pair (.int .i64) (.pair (.int .i64) .unit)) []]::[.ptr 7 y5 []]::uS 3 ([tI b]::uS 96 []))),nS 5 ((some ⟨y5,c,[[1]]⟩)::(some ⟨(.pair (.int .i64) (.pair (.int .i64) .unit)),d,[]⟩)::(some ⟨y5,e,[]⟩)::nS 100 [])⟩
def zhr(a:ByteArray)(b:Int)(c:af)(d:ax)(e:af):State:=⟨uS 1 ([tS a]::uS 2 ([.ptr 5 y5 []]::[.ptr 6 (.pair (.int .i64) (.pair (.int .i64) .unit)) []]::[.ptr 7 y5 []]::uS 3 ([tI b]::uS 96 []))),nS 5 ((some ⟨y5,c,[[1]]⟩)::(some ⟨(.pair (.int .i64) (.pair (.int .i64) .unit)),d,[]⟩)::(some ⟨y5,e,[[1]]⟩)::nS 100 [])⟩
def Er:KX R:=(zk 0 (aF Zb (vY R) kk (sub [1,1,1,1,1,1,1,1,1] (cd Tryz.f39)) (aD Zb Tryz.f39.results.toList none K)))
theorem am4(a:ByteArray)(b c:Int)(d:ag)(e:af)(f:ax)(g:af)(h:ax):Xs R kk (k+1) J a b c d e f g h=
 Sx a b c d e f g h (fun a0 a1 a2 a3 a4=>J .ret (zhq a0 a1 a2 a3 a4)) (Xs R kk k J) (fun a0 a1 a2 a3 a4=>J (.exit 0) (zhr a0 a1 a2 a3 a4)):=by kernel_rfl
theorem agr(a:ByteArray)(b:Int)(c:af)(d:ax)(e:af):Er R kk K .ret (zhq a b c d e)=
 Es a b c d e (fun a0 a1=>K [.aj y5 a0 [[1]],.aj (.pair (.int .i64) (.pair (.int .i64) .unit)) a1 []] none):=by kernel_rfl
theorem ags(a:ByteArray)(b:Int)(c:af)(d:ax)(e:af):Er R kk K (.exit 0) (zhr a b c d e)=
 Et a b c d e (fun a0 a1=>K [.aj y5 a0 [[1]],.aj (.pair (.int .i64) (.pair (.int .i64) .unit)) a1 []] none):=by kernel_rfl
theorem ajL{kk:Nat}(hF:kk=ah)(s7:ByteArray)(t10 t13:Int)(cA:ag)(bQ:af)(cV:ax)(eL:af)(BB:ax):Xs R kk k J s7 t10 t13 cA bQ cV eL BB=(GV k s7 t10 t13 cA bQ cV eL BB).bind fun e=>(Sum.elim (fun(we:iS)=>J .ret (zhq we.1 we.2.1 we.2.2.1 we.2.2.2.1 we.2.2.2.2)) (fun(we:iS)=>J (.exit 0) (zhr we.1 we.2.1 we.2.2.1 we.2.2.2.1 we.2.2.2.2)) e):=by
 induction k generalizing s7 t10 t13 cA bQ cV eL BB with
 |zero=>rfl
 |succ k ih=>
  rw[am4]
  simp only[GV,Sx,ih,ay]
def KK:ai:=vY.add 39 [aC,.str] (cP aC .str qw (fun _ r K=>K [.aj y5 r.1 [[1]],.aj (.pair (.int .i64) (.pair (.int .i64) .unit)) r.2 []] none))
theorem o72:aJ Tryz.prog KK:=cR Zb Tryz.f39 (fun R kk x0 x1 K=>Xt x0 x1 (fun a0 a1=>K [.aj y5 a0 [[1]],.aj (.pair (.int .i64) (.pair (.int .i64) .unit)) a1 []] none) (Xs R kk kk (Er R kk K))) o71 (ek _ _ _ _) Tryz.func39 (by kernel_rfl) rfl (fun _ _ _ _ _ _ h=>h _ _) (fun _ _ _ _ _=>by kernel_rfl) fun R kk e x0 x1 K=>by
 simp only[qw,Xt,Es,Et,ajL (hF:=e),agr,ags,ay,<-e]
def ao7:Env:=e0 [.str]
def vZ:ai:=KK.add 92 [.str] (cC .str sF (fun _ r K=>K [tS r.1,tB r.2] none))
theorem o73:aJ Tryz.prog vZ:=cD ao7 Tryz.f92 (fun R kk x0 K=>WA x0 (fun a0 a1=>K [tS a0,tB a1] none)) o72 (ek _ _ _ _) Tryz.func92 (by kernel_rfl) rfl (fun _ _ _ _ _ _ h=>h _ _) (fun _ _ _ _=>by kernel_rfl) fun R kk e x0 K=>by
 simp only[sF,WA,ay]
def YV:Env:=bG.env (fun i=>bif Nat.beq i 2 then [1,9,10,11] else []) (fun i=>bif Nat.beq i 2 then [4,5] else []) [] [y5,(.int .i64)]
def Ws(a:Int)(b:ak)(c d:Int):Option R:=aw (ev YV (vZ R) kk (sub [1,0,1,0,0] (cd Tryz.f93))) [1,9,10,11] [4,5] k ⟨uS 1 ([tI a]::uS 7 ([.aj (.sl 90 (.pair (.int .i64) (.pair .str .unit))) b []]::[tI c]::[tI d]::uS 10 [])),nS 23 []⟩ J
def zgx(a:ByteArray)(b:Bool):State:=⟨uS 4 ([tS a]::[tB b]::uS 16 []),nS 23 []⟩
def zgy:State:=⟨uS 22 [],nS 23 []⟩
def DH:KX R:=(zk 0 (aF YV (vZ R) kk (sub [1,1] (cd Tryz.f93)) (aD YV Tryz.f93.results.toList none K)))
theorem amM(a:Int)(b:ak)(c d:Int):Ws R kk (k+1) J a b c d=
 DI a b c d (fun a0 a1=>J .ret (zgx a0 a1)) (Ws R kk k J) (J (.exit 0) (zgy)):=by kernel_rfl
theorem afY(a:ByteArray)(b:Bool):DH R kk K .ret (zgx a b)=
 DJ a b (fun a0 a1=>K [tS a0,tB a1] none):=by kernel_rfl
theorem afZ:DH R kk K (.exit 0) (zgy)=
 DK (fun a0 a1=>K [tS a0,tB a1] none):=by kernel_rfl
theorem ajt{kk:Nat}(hF:kk=ah)(cB:Int)(t9:ak)(t10 t11:Int):Ws R kk k J cB t9 t10 t11=(Si k cB t9 t10 t11).bind fun e=>(Sum.elim (fun(we:gF)=>J .ret (zgx we.1 we.2)) (fun(we:Unit)=>J (.exit 0) (zgy)) e):=by
 induction k generalizing cB t9 t10 t11 with
 |zero=>rfl
 |succ k ih=>
  rw[amM]
  simp only[Si,DI,ih,ay]
def wg:ai:=vZ.add 93 [y5,(.int .i64)] (cP y5 (.int .i64) nb (fun _ r K=>K [tS r.1,tB r.2] none))
theorem o74:aJ Tryz.prog wg:=cR YV Tryz.f93 (fun R kk x0 x1 K=>Wt x0 x1 (Ws R kk kk (DH R kk K))) o73 (ek _ _ _ _) Tryz.func93 (by kernel_rfl) rfl (fun _ _ _ _ _ _ h=>h _ _) (fun _ _ _ _ _=>by kernel_rfl) fun R kk e x0 x1 K=>by
 simp only[nb,Wt,DJ,DK,ajt (hF:=e),afY,afZ,ay,<-e]
def YX:Env:=bG.env (fun i=>bif Nat.beq i 3 then [1,4,5,12,13,14] else []) (fun i=>bif Nat.beq i 3 then [4,5] else []) [4] [y5,(.int .i64)]
def Wx(a:Int)(b:ak)(c d:Int)(e f:af):Option R:=aw (ev YX (wg R) kk (sub [1,1,0,1,0,0] (cd Tryz.f149))) [1,4,5,12,13,14] [4,5] k ⟨uS 1 ([tI a]::uS 2 ([.ptr 5 y5 []]::[.ptr 6 y5 []]::uS 6 ([.aj (.sl 90 (.pair (.int .i64) (.pair .str .unit))) b []]::[tI c]::[tI d]::uS 15 []))),nS 5 ((some ⟨y5,e,[[1]]⟩)::(some ⟨y5,f,[[1]]⟩)::nS 24 [])⟩ J
def zh0(a b:af):State:=⟨uS 4 ([.ptr 5 y5 []]::[.ptr 6 y5 []]::uS 24 []),nS 5 ((some ⟨y5,a,[[1]]⟩)::(some ⟨y5,b,[[1]]⟩)::nS 24 [])⟩
def Py:KX R:=(zk 0 (aF YX (wg R) kk (sub [1,1,1] (cd Tryz.f149)) (aD YX Tryz.f149.results.toList none K)))
theorem amO(a:Int)(b:ak)(c d:Int)(e f:af):Wx R kk (k+1) J a b c d e f=
 DO a b c d e f (Wx R kk k J) (fun a0 a1=>J (.exit 0) (zh0 a0 a1)):=by kernel_rfl
theorem af1(a b:af):Py R kk K (.exit 0) (zh0 a b)=
 DP a b (fun a0=>K [.aj y5 a0 [[1]]] none):=by kernel_rfl
theorem ajv{kk:Nat}(hF:kk=ah)(cB:Int)(t12:ak)(t13 t14:Int)(bQ cV:af):Wx R kk k J cB t12 t13 t14 bQ cV=(Sk k cB t12 t13 t14 bQ cV).bind fun e=>J (.exit 0) (zh0 e.1 e.2):=by
 induction k generalizing cB t12 t13 t14 bQ cV with
 |zero=>rfl
 |succ k ih=>
  rw[amO]
  simp only[Sk,DO,ih,ay]
def KL:ai:=wg.add 149 [y5,(.int .i64)] (cP y5 (.int .i64) sE (fun _ r K=>K [.aj y5 r [[1]]] none))
theorem o75:aJ Tryz.prog KL:=cR YX Tryz.f149 (fun R kk x0 x1 K=>Wy x0 x1 (Wx R kk kk (Py R kk K))) o74 (ek _ _ _ _) Tryz.func149 (by kernel_rfl) rfl (fun _ _ _ _ _ _ h=>h _ _) (fun _ _ _ _ _=>by kernel_rfl) fun R kk e x0 x1 K=>by
 simp only[sE,Wy,DP,ajv (hF:=e),af1,ay,<-e]
def ao5:Env:=e0 [(.pair (.int .i64) (.pair .str .unit)),.unit]
def wh:ai:=KL.add 151 [(.pair (.int .i64) (.pair .str .unit)),.unit] (pz (.pair (.int .i64) (.pair .str .unit)) (.int .i64) (.int .i64) [] sD (fun _ r K=>K [tB r.1] (some ⟨(.int .i64),r.2,[]⟩)))
theorem o76:aJ Tryz.prog wh:=sz ao5 Tryz.f151 (fun R kk x0 x1 K=>DN x0 x1 (fun a0 a1=>K [tB a0] (some ⟨(.int .i64),a1,[]⟩))) o75 (ek _ _ _ _) Tryz.func151 (by kernel_rfl) rfl (fun _ _ _ _ _ _ h=>h _ _) (fun _ _ _ _ _=>by kernel_rfl) fun R kk e x0 x1 K=>by
 simp only[sD,DN,ay]
def Y9:Env:=bG.env (fun i=>bif Nat.beq i 2 then [0,1,7,8] else []) (fun i=>bif Nat.beq i 2 then [4] else []) [] [(.sl 90 (.pair (.int .i64) (.pair .str .unit))),.unit]
def Xj(a:ak)(b c d:Int):Option R:=aw (ev Y9 (wh R) kk (sub [1,0,1,0,0] (cd Tryz.f150))) [0,1,7,8] [4] k ⟨[.aj (.sl 90 (.pair (.int .i64) (.pair .str .unit))) a []]::[.ptr 0 (.aZ (.ru 151) (.int .i64) .unit) []]::uS 5 ([tI b]::[tI c]::uS 10 []),(some ⟨(.int .i64),d,[]⟩)::nS 19 []⟩ J
def zhm(a b:Int):State:=⟨uS 4 ([tI a]::uS 14 []),(some ⟨(.int .i64),b,[]⟩)::nS 19 []⟩
def zhn(a:Int):State:=⟨uS 19 [],(some ⟨(.int .i64),a,[]⟩)::nS 19 []⟩
def Eh(a:Int):KX R:=(zk 0 (aF Y9 (wh R) kk (sub [1,1] (cd Tryz.f150)) (aD Y9 Tryz.f150.results.toList (some ⟨(.int .i64),a,[]⟩) K)))
theorem am2(a:ak)(b c d:Int):Xj R kk (k+1) J a b c d=
 Ei a b c d (fun a0 a1=>J .ret (zhm a0 a1)) (Xj R kk k J) (fun a0=>J (.exit 0) (zhn a0)):=by kernel_rfl
theorem agn(a b c:Int):Eh R kk K a .ret (zhm b c)=
 Ej b c (fun a0 a1=>K [tI a0] (some ⟨(.int .i64),a1,[]⟩)):=by kernel_rfl
theorem ago(a b:Int):Eh R kk K a (.exit 0) (zhn b)=
 Ek b (fun a0 a1=>K [tI a0] (some ⟨(.int .i64),a1,[]⟩)):=by kernel_rfl
theorem ajJ{kk:Nat}(hF:kk=ah)(nv:ak)(t7 t8 recv:Int):Xj R kk k J nv t7 t8 recv=(Sv k nv t7 t8 recv).bind fun e=>(Sum.elim (fun(we:(Int×Int))=>J .ret (zhm we.1 we.2)) (fun(we:Int)=>J (.exit 0) (zhn we)) e):=by
 induction k generalizing nv t7 t8 recv with
 |zero=>rfl
 |succ k ih=>
  rw[am2]
  simp only[Sv,Ei,ih,ay]
def KM:ai:=wh.add 150 [(.sl 90 (.pair (.int .i64) (.pair .str .unit))),.unit] (pz (.sl 90 (.pair (.int .i64) (.pair .str .unit))) (.aZ (.ru 151) (.int .i64) .unit) (.int .i64) [] sQ (fun _ r K=>K [tI r.1] (some ⟨(.int .i64),r.2,[]⟩)))
theorem o77:aJ Tryz.prog KM:=sz Y9 Tryz.f150 (fun R kk x0 x1 K=>Xk x0 x1 (Xj R kk kk (Eh R kk K x1))) o76 (ek _ _ _ _) Tryz.func150 (by kernel_rfl) rfl (fun _ _ _ _ _ _ h=>h _ _) (fun _ _ _ _ _=>by kernel_rfl) fun R kk e x0 x1 K=>by
 simp only[sQ,Xk,Ej,Ek,ajJ (hF:=e),agn,ago,ay,<-e]
def ao4:Env:={bG.env (fun _=>[]) (fun _=>[]) [6] [y5,(.int .i64),.str] with fz:=fun i=>bif Nat.beq i 9 then some (9,47) else none}
def nr:ai:=KM.add 94 [y5,(.int .i64),.str] (gu y5 (.int .i64) .str gB (fun _ r K=>K [.aj y5 r []] none))
theorem o78:aJ Tryz.prog nr:=gx ao4 Tryz.f94 (fun R kk x0 x1 x2 K=>Ww x0 x1 x2 (fun a0=>K [.aj y5 a0 []] none)) o77 ((ek _ _ _ _).fz _) Tryz.func94 (by kernel_rfl) rfl (fun _ _ _ _ _ _ h=>h _ _) (fun _ _ _ _ _ _=>by kernel_rfl) fun R kk e x0 x1 x2 K=>by
 simp only[gB,Ww,ay]
def He:Env:=bG.env (fun i=>bif Nat.beq i 2 then [2,10,11,12] else bif Nat.beq i 5 then [2,6,10,11,12,17,18,19] else []) (fun i=>bif Nat.beq i 2 then [4] else bif Nat.beq i 5 then [2,4,10,11,12] else []) [] [cg,(.int .i64)]
def WR(a:(List Int))(b c:Int)(d:au):Option R:=aw (ev He (nr R) kk (sub [1,0,1,0,0] (cd Tryz.f95))) [2,10,11,12] [4] k ⟨uS 2 ([.ptr 3 cg []]::uS 7 ([.aj (.sl 38 (.int .i64)) a [[]]]::[tI b]::[tI c]::uS 18 [])),nS 3 ((some ⟨cg,d,[]⟩)::nS 28 [])⟩ J
def zh7:State:=⟨uS 31 [],nS 32 []⟩
def zh8(a:ByteArray):State:=⟨uS 4 ([tS a]::uS 26 []),nS 32 []⟩
def DY:KX R:=(zk 0 (aF He (nr R) kk (sub [1,1] (cd Tryz.f95)) (aD He Tryz.f95.results.toList none K)))
def WS(a:Int)(b:(List Int))(c d:Int)(e:ak)(f g:Int)(h:au):Option R:=aw (ev He (nr R) kk (sub [1,0,1,0,0,1,1,0,0,1,1,0,0] (cd Tryz.f95))) [2,6,10,11,12,17,18,19] [2,4,10,11,12] k ⟨uS 2 ([.ptr 3 cg []]::uS 3 ([tI a]::uS 3 ([.aj (.sl 38 (.int .i64)) b [[]]]::[tI c]::[tI d]::uS 4 ([.aj (.sl 96 (.pair (.int .i64) (.pair .str .unit))) e []]::[tI f]::[tI g]::uS 11 [])))),nS 3 ((some ⟨cg,h,[]⟩)::nS 28 [])⟩ J
def zh9(a:ByteArray)(b:(List Int))(c d:Int)(e:au):State:=⟨uS 2 ([.ptr 3 cg []]::uS 1 ([tS a]::uS 5 ([.aj (.sl 38 (.int .i64)) b [[]]]::[tI c]::[tI d]::uS 18 []))),nS 3 ((some ⟨cg,e,[]⟩)::nS 28 [])⟩
def zha(a:(List Int))(b c:Int)(d:au):State:=⟨uS 2 ([.ptr 3 cg []]::uS 7 ([.aj (.sl 38 (.int .i64)) a [[]]]::[tI b]::[tI c]::uS 18 [])),nS 3 ((some ⟨cg,d,[]⟩)::nS 28 [])⟩
def DZ:KX R:=(zk 2 (zk 1 (aF He (nr R) kk (sub [1,0,1,0,0,1,1,1] (cd Tryz.f95)) (iB (ev He (nr R) kk (sub [1,0,1,0,0] (cd Tryz.f95))) [2,10,11,12] [4] k J))))
theorem amT(a:(List Int))(b c:Int)(d:au):WR R kk (k+1) J a b c d=
 Sq a b c d (WS R kk kk (DZ R kk k J)) (J (.exit 0) (zh7)):=by kernel_rfl
theorem af8:DY R kk K (.exit 0) (zh7)=
 D0 (fun a0=>K [tS a0] none):=by kernel_rfl
theorem amU(a:Int)(b:(List Int))(c d:Int)(e:ak)(f g:Int)(h:au):WS R kk (k+1) J a b c d e f g h=
 D1 a b c d e f g h (fun a0 a1 a2 a3 a4=>J .ret (zh9 a0 a1 a2 a3 a4)) (WS R kk k J) (fun a0 a1 a2 a3=>J (.exit 2) (zha a0 a1 a2 a3)):=by kernel_rfl
theorem aga(a:ByteArray)(b:(List Int))(c d:Int)(e:au):DZ R kk k J .ret (zh9 a b c d e)=
 D2 a b c d e (fun a0=>J .ret (zh8 a0)):=by kernel_rfl
theorem agb(a:(List Int))(b c:Int)(d:au):DZ R kk k J (.exit 2) (zha a b c d)=
 WU a b c d (WR R kk k J):=by kernel_rfl
theorem af9(a:ByteArray):DY R kk K .ret (zh8 a)=
 D3 a (fun a0=>K [tS a0] none):=by kernel_rfl
theorem ajB{kk:Nat}(hF:kk=ah)(t6:Int)(t10:(List Int))(t11 t12:Int)(t17:ak)(t18 t19:Int)(cA:au):WS R kk k J t6 t10 t11 t12 t17 t18 t19 cA=(Ik k t6 t10 t11 t12 t17 t18 t19 cA).bind fun e=>(Sum.elim (fun(we:(ByteArray×(List Int)×Int×Int×au))=>J .ret (zh9 we.1 we.2.1 we.2.2.1 we.2.2.2.1 we.2.2.2.2)) (fun(we:((List Int)×Int×Int×au))=>J (.exit 2) (zha we.1 we.2.1 we.2.2.1 we.2.2.2)) e):=by
 induction k generalizing t6 t10 t11 t12 t17 t18 t19 cA with
 |zero=>rfl
 |succ k ih=>
  rw[amU]
  simp only[Ik,D1,ih,ay]
theorem ajA{kk:Nat}(hF:kk=ah)(t10:(List Int))(t11 t12:Int)(cA:au):WR R kk k J t10 t11 t12 cA=(AY k t10 t11 t12 cA).bind fun e=>(Sum.elim (fun(we:Unit)=>J (.exit 0) (zh7)) (fun(we:ByteArray)=>J .ret (zh8 we)) e):=by
 induction k generalizing t10 t11 t12 cA with
 |zero=>rfl
 |succ k ih=>
  rw[amT]
  simp only[AY,Sq,D2,WU,ih,ajB (hF:=hF),aga,agb,ay,<-hF]
def wl:ai:=nr.add 95 [cg,(.int .i64)] (cP cg (.int .i64) sJ (fun _ r K=>K [tS r] none))
theorem o79:aJ Tryz.prog wl:=cR He Tryz.f95 (fun R kk x0 x1 K=>WT x0 x1 (WR R kk kk (DY R kk K))) o78 (ek _ _ _ _) Tryz.func95 (by kernel_rfl) rfl (fun _ _ _ _ _ _ h=>h _ _) (fun _ _ _ _ _=>by kernel_rfl) fun R kk e x0 x1 K=>by
 simp only[sJ,WT,D0,D3,ajA (hF:=e),af8,af9,ay,<-e]
def Y0:Env:={{bG.env (fun i=>bif Nat.beq i 6 then [3,4,5,6,10,27,28,29] else []) (fun i=>bif Nat.beq i 6 then [3,5,6,10] else []) [6] [cg,y5,(.pair (.int .i64) (.pair (.int .i64) .unit))] with dr:=fun i=>bif Nat.beq i 6 then [11] else []} with ro:=true}
def WI(a:(List Int))(b c:Int)(d:au)(e:af)(f:ax)(g h:af):Option R:=aw (ev Y0 (wl R) kk (sub [1,1,1,1,0,1,0,0] (cd Tryz.f37))) [3,4,5,6,10,27,28,29] [3,5,6,10] k ⟨uS 3 ([.ptr 4 cg []]::[.ptr 5 y5 []]::[.ptr 6 (.pair (.int .i64) (.pair (.int .i64) .unit)) []]::[.ptr 7 y5 []]::uS 3 ([.ptr 11 y5 []]::uS 16 ([.aj (.sl 3 (.int .i64)) a []]::[tI b]::[tI c]::uS 21 []))),nS 4 ((some ⟨cg,d,[]⟩)::(some ⟨y5,e,[]⟩)::(some ⟨(.pair (.int .i64) (.pair (.int .i64) .unit)),f,[]⟩)::(some ⟨y5,g,[[1]]⟩)::nS 3 ((some ⟨y5,h,[]⟩)::nS 40 []))⟩ J
def zh2(a:au)(b:ax)(c d:af):State:=⟨uS 3 ([.ptr 4 cg []]::uS 1 ([.ptr 6 (.pair (.int .i64) (.pair (.int .i64) .unit)) []]::[.ptr 7 y5 []]::uS 3 ([.ptr 11 y5 []]::uS 40 []))),nS 4 ((some ⟨cg,a,[]⟩)::nS 1 ((some ⟨(.pair (.int .i64) (.pair (.int .i64) .unit)),b,[]⟩)::(some ⟨y5,c,[[1]]⟩)::nS 3 ((some ⟨y5,d,[]⟩)::nS 40 [])))⟩
def PA:KX R:=(zk 0 (aF Y0 (wl R) kk (sub [1,1,1,1,1] (cd Tryz.f37)) (aD Y0 Tryz.f37.results.toList none K)))
theorem amQ(a:(List Int))(b c:Int)(d:au)(e:af)(f:ax)(g h:af):WI R kk (k+1) J a b c d e f g h=
 DT a b c d e f g h (WI R kk k J) (fun a0 a1 a2 a3=>J (.exit 0) (zh2 a0 a1 a2 a3)):=by kernel_rfl
theorem af3(a:au)(b:ax)(c d:af):PA R kk K (.exit 0) (zh2 a b c d)=
 WK a b c d (fun a0 a1=>K [.aj y5 a0 [],tB a1] none):=by kernel_rfl
theorem ajx{kk:Nat}(hF:kk=ah)(t27:(List Int))(t28 t29:Int)(cU:au)(bQ:af)(cV:ax)(eL nz:af):WI R kk k J t27 t28 t29 cU bQ cV eL nz=(Sn k t27 t28 t29 cU bQ cV eL nz).bind fun e=>J (.exit 0) (zh2 e.1 e.2.1 e.2.2.1 e.2.2.2):=by
 induction k generalizing t27 t28 t29 cU bQ cV eL nz with
 |zero=>rfl
 |succ k ih=>
  rw[amQ]
  simp only[Sn,DT,ih,ay]
def wo:ai:=wl.add 37 [cg,y5,(.pair (.int .i64) (.pair (.int .i64) .unit))] (gu cg y5 (.pair (.int .i64) (.pair (.int .i64) .unit)) sH (fun _ r K=>K [.aj y5 r.1 [],tB r.2] none))
theorem o80:aJ Tryz.prog wo:=gx Y0 Tryz.f37 (fun R kk x0 x1 x2 K=>WJ x0 x1 x2 (fun a0 a1=>K [.aj y5 a0 [],tB a1] none) (WI R kk kk (PA R kk K))) o79 (((ek _ _ _ _).dr _).ro _) Tryz.func37 (by kernel_rfl) rfl (fun _ _ _ _ _ _ h=>h _ _) (fun _ _ _ _ _ _=>by kernel_rfl) fun R kk e x0 x1 x2 K=>by
 simp only[sH,WJ,WK,ajx (hF:=e),af3,ay,<-e]
def YU:Env:=bG.env (fun i=>bif Nat.beq i 9 then [2,4,9,39,40,41] else []) (fun i=>bif Nat.beq i 9 then [4] else []) [4] [aC,y5]
def Wq(a:Int)(b:ak)(c d:Int)(e:ag)(f:ax):Option R:=aw (ev YU (wo R) kk (sub [1,1,1,1,0,1,0,0] (cd Tryz.f96))) [2,4,9,39,40,41] [4] k ⟨uS 2 ([.ptr 3 aC []]::uS 1 ([.ptr 5 (.pair (.int .i64) (.pair (.int .i64) .unit)) []]::uS 4 ([tI a]::uS 29 ([.aj (.sl 90 (.pair (.int .i64) (.pair .str .unit))) b []]::[tI c]::[tI d]::uS 36 [])))),nS 3 ((some ⟨aC,e,[]⟩)::nS 1 ((some ⟨(.pair (.int .i64) (.pair (.int .i64) .unit)),f,[]⟩)::nS 73 []))⟩ J
def zgv(a:ax):State:=⟨uS 4 ([.ptr 5 (.pair (.int .i64) (.pair (.int .i64) .unit)) []]::uS 73 []),nS 5 ((some ⟨(.pair (.int .i64) (.pair (.int .i64) .unit)),a,[]⟩)::nS 73 [])⟩
def zgw(a:ax):State:=⟨uS 4 ([.ptr 5 (.pair (.int .i64) (.pair (.int .i64) .unit)) []]::uS 73 []),nS 5 ((some ⟨(.pair (.int .i64) (.pair (.int .i64) .unit)),a,[]⟩)::nS 73 [])⟩
def DE:KX R:=(zk 0 (aF YU (wo R) kk (sub [1,1,1,1,1] (cd Tryz.f96)) (aD YU Tryz.f96.results.toList none K)))
theorem amL(a:Int)(b:ak)(c d:Int)(e:ag)(f:ax):Wq R kk (k+1) J a b c d e f=
 z124 a b c d e f (fun a0=>J .ret (zgv a0)) (Wq R kk k J) (fun a0=>J (.exit 0) (zgw a0)):=by kernel_rfl
theorem afW(a:ax):DE R kk K .ret (zgv a)=
 DF a (fun a0=>K [.aj (.pair (.int .i64) (.pair (.int .i64) .unit)) a0 []] none):=by kernel_rfl
theorem afX(a:ax):DE R kk K (.exit 0) (zgw a)=
 DG a (fun a0=>K [.aj (.pair (.int .i64) (.pair (.int .i64) .unit)) a0 []] none):=by kernel_rfl
theorem ajs{kk:Nat}(hF:kk=ah)(t9:Int)(t39:ak)(t40 t41:Int)(cA:ag)(bQ:ax):Wq R kk k J t9 t39 t40 t41 cA bQ=(Sh k t9 t39 t40 t41 cA bQ).bind fun e=>(Sum.elim (fun(we:ax)=>J .ret (zgv we)) (fun(we:ax)=>J (.exit 0) (zgw we)) e):=by
 induction k generalizing t9 t39 t40 t41 cA bQ with
 |zero=>rfl
 |succ k ih=>
  rw[amL]
  simp only[Sh,z124,ih,ay]
def wq:ai:=wo.add 96 [aC,y5] (cP aC y5 qo (fun _ r K=>K [.aj (.pair (.int .i64) (.pair (.int .i64) .unit)) r []] none))
theorem o81:aJ Tryz.prog wq:=cR YU Tryz.f96 (fun R kk x0 x1 K=>Wr x0 x1 (fun a0=>K [.aj (.pair (.int .i64) (.pair (.int .i64) .unit)) a0 []] none) (Wq R kk kk (DE R kk K))) o80 (ek _ _ _ _) Tryz.func96 (by kernel_rfl) rfl (fun _ _ _ _ _ _ h=>h _ _) (fun _ _ _ _ _=>by kernel_rfl) fun R kk e x0 x1 K=>by
 simp only[qo,Wr,DF,DG,ajs (hF:=e),afW,afX,ay,<-e]
def vr:Env:=bG.env (fun i=>bif Nat.beq i 7 then [0,4,5] else []) (fun i=>bif Nat.beq i 7 then [4] else []) [] [.str]
def n7(a:ByteArray)(b:(List Int))(c:Int):Option R:=aw (ev vr (wq R) kk (sub [1,1,1,1,0,1,0,0] (cd Tryz.f154))) [0,4,5] [4] k ⟨[tS a]::uS 3 ([.aj (.sl 5 (.int .u8)) b [[]]]::[tI c]::uS 40 []),nS 47 []⟩ J
def D7(a:(List Int)):State:=⟨uS 4 ([.aj (.sl 5 (.int .u8)) a [[]]]::uS 41 []),nS 47 []⟩
def x6:KX R:=(zk 0 (aF vr (wq R) kk (sub [1,1,1,1,1] (cd Tryz.f154)) (aD vr Tryz.f154.results.toList none K)))
theorem Jo(a:ByteArray)(b:(List Int))(c:Int):n7 R kk (k+1) J a b c=
 lV a b c (n7 R kk k J) (fun a0=>J (.exit 0) (D7 a0)):=by kernel_rfl
theorem amW(a:(List Int)):x6 R kk K (.exit 0) (D7 a)=
 sM a (fun a0 a1=>K [tS a0,tB a1] none):=by kernel_rfl
theorem z218{kk:Nat}(hF:kk=ah)(dw:ByteArray)(t4:(List Int))(t5:Int):n7 R kk k J dw t4 t5=(jm k dw t4 t5).bind fun e=>J (.exit 0) (D7 e):=by
 induction k generalizing dw t4 t5 with
 |zero=>rfl
 |succ k ih=>
  rw[Jo]
  simp only[jm,lV,ih,ay]
def KN:ai:=wq.add 154 [.str] (cC .str Q1 (fun _ r K=>K [tS r.1,tB r.2] none))
theorem o82:aJ Tryz.prog KN:=cD vr Tryz.f154 (fun R kk x0 K=>kn x0 (fun a0 a1=>K [tS a0,tB a1] none) (fun a0 a1 a2=>n7 R kk kk (x6 R kk K) a0 a1 a2)) o81 (ek _ _ _ _) Tryz.func154 (by kernel_rfl) rfl (fun _ _ _ _ _ _ h=>h _ _) (fun _ _ _ _=>by kernel_rfl) fun R kk e x0 K=>by
 simp only[Q1,ad1,sM,z218 (hF:=e),amW,ay,<-e]
def apz:Env:=e0 [(.int .i64),.str]
def KO:ai:=KN.add 99 [(.int .i64),.str] (cP (.int .i64) .str sW (fun _ r K=>K [tS r.1,tB r.2] none))
theorem o83:aJ Tryz.prog KO:=cR apz Tryz.f99 (fun R kk x0 x1 K=>XM x0 x1 (fun a0 a1=>K [tS a0,tB a1] none)) o82 (ek _ _ _ _) Tryz.func99 (by kernel_rfl) rfl (fun _ _ _ _ _ _ h=>h _ _) (fun _ _ _ _ _=>by kernel_rfl) fun R kk e x0 x1 K=>by
 simp only[sW,XM,ay]
def Tryz.iC:Go.Shelf.Ren:=⟨fun|166=>98|240=>152|276=>198|n=>n,fun|70=>144|9=>9|3=>3|75=>149|0=>0|72=>147|37=>145|4=>4|164=>246|80=>158|5=>5|20=>20|n=>n,fun n=>n⟩
theorem Tryz.wZ:Go.Proofs.Lays.n166 Go.Proofs.Tryz.prog Tryz.iC:={
 mixed:=by kernel_rfl,
 f166:=Go.Proofs.Tryz.func98.trans (congrArg some (by kernel_rfl)),
 f240:=Go.Proofs.Tryz.func152.trans (congrArg some (by kernel_rfl)),
 f276:=Go.Proofs.Tryz.func198.trans (congrArg some (by kernel_rfl)),
 t0:=Go.Proofs.Tryz.underlying0,
 a0:=Go.Proofs.Tryz.isAgg0,
 z0:=Go.Proofs.Tryz.sizeOf0,
 v0:=Go.Proofs.Tryz.zeroValue0,
 t3:=Go.Proofs.Tryz.underlying3,
 a3:=Go.Proofs.Tryz.isAgg3,
 z3:=Go.Proofs.Tryz.sizeOf3,
 v3:=Go.Proofs.Tryz.zeroValue3,
 t4:=Go.Proofs.Tryz.underlying4,
 a4:=Go.Proofs.Tryz.isAgg4,
 z4:=Go.Proofs.Tryz.sizeOf4,
 v4:=Go.Proofs.Tryz.zeroValue4,
 t9:=Go.Proofs.Tryz.underlying9,
 a9:=Go.Proofs.Tryz.isAgg9,
 z9:=Go.Proofs.Tryz.sizeOf9,
 v9:=Go.Proofs.Tryz.zeroValue9,
 t20:=Go.Proofs.Tryz.underlying20,
 a20:=Go.Proofs.Tryz.isAgg20,
 z20:=Go.Proofs.Tryz.sizeOf20,
 v20:=Go.Proofs.Tryz.zeroValue20,
 t37:=Go.Proofs.Tryz.underlying145,
 a37:=Go.Proofs.Tryz.isAgg145,
 z37:=Go.Proofs.Tryz.sizeOf145,
 v37:=Go.Proofs.Tryz.zeroValue145,
 t70:=Go.Proofs.Tryz.underlying144,
 a70:=Go.Proofs.Tryz.isAgg144,
 z70:=Go.Proofs.Tryz.sizeOf144,
 v70:=Go.Proofs.Tryz.zeroValue144,
 t72:=Go.Proofs.Tryz.underlying147,
 a72:=Go.Proofs.Tryz.isAgg147,
 z72:=Go.Proofs.Tryz.sizeOf147,
 v72:=Go.Proofs.Tryz.zeroValue147,
 t75:=Go.Proofs.Tryz.underlying149,
 a75:=Go.Proofs.Tryz.isAgg149,
 z75:=Go.Proofs.Tryz.sizeOf149,
 v75:=Go.Proofs.Tryz.zeroValue149,
 t164:=Go.Proofs.Tryz.underlying246,
 a164:=Go.Proofs.Tryz.isAgg246,
 z164:=Go.Proofs.Tryz.sizeOf246,
 v164:=Go.Proofs.Tryz.zeroValue246}
theorem Tryz.ti:Go.Proofs.Builder.Extra Go.Proofs.Tryz.prog Tryz.iC:={
 sizeBuilder:=by kernel_rfl,
 liesBuilder:=by kernel_rfl,
 t5:=Go.Proofs.Tryz.underlying5,
 a5:=Go.Proofs.Tryz.isAgg5,
 z5:=Go.Proofs.Tryz.sizeOf5,
 v5:=Go.Proofs.Tryz.zeroValue5,
 infoByte:=by kernel_rfl,
 cellsByte:=by kernel_rfl,
 sizeByte:=by kernel_rfl,
 neB5:=by decide}
noncomputable abbrev z6f:Code:=Tryz.f98.body.getD .skip
theorem z5w:ri Tryz.prog 98:=⟨Tryz.f98,z6f,Tryz.func98,by kernel_rfl,by kernel_rfl⟩
def KP:ai:=KO.add 98 [] (Th 147 5)
theorem o84:aJ Tryz.prog KP:=⟨o83.mix,X6 o83.nat (ap1 _ _),agZ o83.tW z5w Tryz.wZ Tryz.ti rfl rfl rfl⟩
def apy:Env:=e0 [.str,.unit]
def wu:ai:=KP.add 97 [.str,.unit] (pz .str (.aZ (.fQ 147 5) .unit .unit) (.aZ (.fQ 147 5) .unit .unit) [[]] jn (fun _ r K=>K [] (some ⟨(.aZ (.fQ 147 5) .unit .unit),r,[[]]⟩)))
theorem o85:aJ Tryz.prog wu:=sz apy Tryz.f97 (fun R kk x0 x1 K=>XL x0 x1 (fun a0=>K [] (some ⟨(.aZ (.fQ 147 5) .unit .unit),a0,[[]]⟩))) o84 (ek _ _ _ _) Tryz.func97 (by kernel_rfl) rfl (fun _ _ _ _ _ _ h=>h _ _) (fun _ _ _ _ _=>by kernel_rfl) fun R kk e x0 x1 K=>by
 simp only[jn,XL,ay]
def YW:Env:=bG.env (fun i=>bif Nat.beq i 3 then [2,3,7,8,9] else []) (fun i=>bif Nat.beq i 3 then [2,3] else []) [2] [y5]
def Wu(a:ak)(b c:Int)(d e:ax):Option R:=aw (ev YW (wu R) kk (sub [1,1,0,1,0,0] (cd Tryz.f101))) [2,3,7,8,9] [2,3] k ⟨uS 2 ([.ptr 3 (.pair (.int .u64) (.pair (.int .u64) .unit)) []]::[.ptr 4 (.pair (.int .u64) (.pair (.int .u64) .unit)) []]::uS 3 ([.aj (.sl 90 (.pair (.int .i64) (.pair .str .unit))) a []]::[tI b]::[tI c]::uS 9 [])),nS 3 ((some ⟨(.pair (.int .u64) (.pair (.int .u64) .unit)),d,[]⟩)::(some ⟨(.pair (.int .u64) (.pair (.int .u64) .unit)),e,[]⟩)::nS 15 [])⟩ J
def zgz(a b:ax):State:=⟨uS 2 ([.ptr 3 (.pair (.int .u64) (.pair (.int .u64) .unit)) []]::[.ptr 4 (.pair (.int .u64) (.pair (.int .u64) .unit)) []]::uS 15 []),nS 3 ((some ⟨(.pair (.int .u64) (.pair (.int .u64) .unit)),a,[]⟩)::(some ⟨(.pair (.int .u64) (.pair (.int .u64) .unit)),b,[]⟩)::nS 15 [])⟩
def Px:KX R:=(zk 0 (aF YW (wu R) kk (sub [1,1,1] (cd Tryz.f101)) (aD YW Tryz.f101.results.toList none K)))
theorem amN(a:ak)(b c:Int)(d e:ax):Wu R kk (k+1) J a b c d e=
 DL a b c d e (Wu R kk k J) (fun a0 a1=>J (.exit 0) (zgz a0 a1)):=by kernel_rfl
theorem af0(a b:ax):Px R kk K (.exit 0) (zgz a b)=
 DM a b (fun a0=>K [.aj (.pair (.int .u64) (.pair (.int .u64) .unit)) a0 []] none):=by kernel_rfl
theorem aju{kk:Nat}(hF:kk=ah)(t7:ak)(t8 t9:Int)(cA cU:ax):Wu R kk k J t7 t8 t9 cA cU=(Sj k t7 t8 t9 cA cU).bind fun e=>J (.exit 0) (zgz e.1 e.2):=by
 induction k generalizing t7 t8 t9 cA cU with
 |zero=>rfl
 |succ k ih=>
  rw[amN]
  simp only[Sj,DL,ih,ay]
def KQ:ai:=wu.add 101 [y5] (cC y5 sC (fun _ r K=>K [.aj (.pair (.int .u64) (.pair (.int .u64) .unit)) r []] none))
theorem o86:aJ Tryz.prog KQ:=cD YW Tryz.f101 (fun R kk x0 K=>Wv x0 (Wu R kk kk (Px R kk K))) o85 (ek _ _ _ _) Tryz.func101 (by kernel_rfl) rfl (fun _ _ _ _ _ _ h=>h _ _) (fun _ _ _ _=>by kernel_rfl) fun R kk e x0 K=>by
 simp only[sC,Wv,DM,aju (hF:=e),af0,ay,<-e]
def Jz:Env:=e0 [(.pair (.int .u64) (.pair (.int .u64) .unit)),(.int .i64)]
def KR:ai:=KQ.add 156 [(.pair (.int .u64) (.pair (.int .u64) .unit)),(.int .i64)] (cP (.pair (.int .u64) (.pair (.int .u64) .unit)) (.int .i64) Jy (fun _ r K=>K [tB r] none))
theorem o87:aJ Tryz.prog KR:=cR Jz Tryz.f156 (fun R kk x0 x1 K=>Zy x0 x1 (fun a0=>K [tB a0] none)) o86 (ek _ _ _ _) Tryz.func156 (by kernel_rfl) rfl (fun _ _ _ _ _ _ h=>h _ _) (fun _ _ _ _ _=>by kernel_rfl) fun R kk e x0 x1 K=>by
 simp only[Jy,Zy,ay]
def Jx:Env:=e0 [(.pair (.int .u64) (.pair (.int .u64) .unit))]
def wv:ai:=KR.add 157 [(.pair (.int .u64) (.pair (.int .u64) .unit))] (cC (.pair (.int .u64) (.pair (.int .u64) .unit)) Tw (fun _ r K=>K [.aj (.int .u64) r.1 [],.aj (.int .u64) r.2 []] none))
theorem o88:aJ Tryz.prog wv:=cD Jx Tryz.f157 (fun R kk x0 K=>z194 x0 (fun a0 a1=>K [.aj (.int .u64) a0 [],.aj (.int .u64) a1 []] none)) o87 (ek _ _ _ _) Tryz.func157 (by kernel_rfl) rfl (fun _ _ _ _ _ _ h=>h _ _) (fun _ _ _ _=>by kernel_rfl) fun R kk e x0 K=>by
 simp only[Tw,z194,ay]
def vF:Env:=bG.env (fun i=>bif Nat.beq i 3 then [0,2,3,5] else []) (fun i=>bif Nat.beq i 3 then [2,3] else []) [2] [(.int .u64)]
def oM(a b:Int)(c d:(List Int)):Option R:=aw (ev vF (wv R) kk (sub [1,1,0,1,0,0] (cd Tryz.f158))) [0,2,3,5] [2,3] k ⟨[.aj (.int .u64) a []]::uS 1 ([.ptr 3 (.arr 8 (.int .u8)) []]::[.ptr 4 (.arr 8 (.int .u8)) []]::uS 1 ([tI b]::uS 12 [])),nS 3 ((some ⟨(.arr 8 (.int .u8)),c,[]⟩)::(some ⟨(.arr 8 (.int .u8)),d,[]⟩)::nS 14 [])⟩ J
def EW(a b:(List Int)):State:=⟨uS 2 ([.ptr 3 (.arr 8 (.int .u8)) []]::[.ptr 4 (.arr 8 (.int .u8)) []]::uS 14 []),nS 3 ((some ⟨(.arr 8 (.int .u8)),a,[]⟩)::(some ⟨(.arr 8 (.int .u8)),b,[]⟩)::nS 14 [])⟩
def yh:KX R:=(zk 0 (aF vF (wv R) kk (sub [1,1,1] (cd Tryz.f158)) (aD vF Tryz.f158.results.toList none K)))
theorem JU(a b:Int)(c d:(List Int)):oM R kk (k+1) J a b c d=
 lZ a b c d (oM R kk k J) (fun a0 a1=>J (.exit 0) (EW a0 a1)):=by kernel_rfl
theorem anI(a b:(List Int)):yh R kk K (.exit 0) (EW a b)=
 oO a b (fun a0=>K [.aj (.arr 8 (.int .u8)) a0 []] none):=by kernel_rfl
theorem apV{kk:Nat}(hF:kk=ah)(x_0 t5:Int)(cA cU:(List Int)):oM R kk k J x_0 t5 cA cU=(gC k x_0 t5 cA cU).bind fun e=>J (.exit 0) (EW e.1 e.2):=by
 induction k generalizing x_0 t5 cA cU with
 |zero=>rfl
 |succ k ih=>
  rw[JU]
  simp only[gC,lZ,ih,ay]
def ww:ai:=wv.add 158 [(.int .u64)] (cC (.int .u64) Q8 (fun _ r K=>K [.aj (.arr 8 (.int .u8)) r []] none))
theorem o89:aJ Tryz.prog ww:=cD vF Tryz.f158 (fun R kk x0 K=>oN x0 (oM R kk kk (yh R kk K))) o88 (ek _ _ _ _) Tryz.func158 (by kernel_rfl) rfl (fun _ _ _ _ _ _ h=>h _ _) (fun _ _ _ _=>by kernel_rfl) fun R kk e x0 K=>by
 simp only[Q8,oN,oO,apV (hF:=e),anI,ay,<-e]
def YS:Env:=bG.env (fun i=>bif Nat.beq i 3 then [0,3,4] else []) (fun i=>bif Nat.beq i 3 then [3] else []) [] [.str]
def Wn(a:ByteArray)(b:(List Int))(c:Int):Option R:=aw (ev YS (ww R) kk (sub [1,1,0,1,0,0] (cd Tryz.f159))) [0,3,4] [3] k ⟨[tS a]::uS 2 ([.aj (.sl 5 (.int .u8)) b [[]]]::[tI c]::uS 25 []),nS 31 []⟩ J
def zgu(a:(List Int)):State:=⟨uS 3 ([.aj (.sl 5 (.int .u8)) a [[]]]::uS 26 []),nS 31 []⟩
def Pw:KX R:=(zk 0 (aF YS (ww R) kk (sub [1,1,1] (cd Tryz.f159)) (aD YS Tryz.f159.results.toList none K)))
theorem amK(a:ByteArray)(b:(List Int))(c:Int):Wn R kk (k+1) J a b c=
 Sg a b c (Wn R kk k J) (fun a0=>J (.exit 0) (zgu a0)):=by kernel_rfl
theorem afV(a:(List Int)):Pw R kk K (.exit 0) (zgu a)=
 DB a (fun a0=>K [tS a0] none):=by kernel_rfl
theorem ajr{kk:Nat}(hF:kk=ah)(dw:ByteArray)(t3:(List Int))(t4:Int):Wn R kk k J dw t3 t4=(GO k dw t3 t4).bind fun e=>J (.exit 0) (zgu e):=by
 induction k generalizing dw t3 t4 with
 |zero=>rfl
 |succ k ih=>
  rw[amK]
  simp only[GO,Sg,ih,ay]
def KS:ai:=ww.add 159 [.str] (cC .str jk (fun _ r K=>K [tS r] none))
theorem o90:aJ Tryz.prog KS:=cD YS Tryz.f159 (fun R kk x0 K=>Wo x0 (Wn R kk kk (Pw R kk K))) o89 (ek _ _ _ _) Tryz.func159 (by kernel_rfl) rfl (fun _ _ _ _ _ _ h=>h _ _) (fun _ _ _ _=>by kernel_rfl) fun R kk e x0 K=>by
 simp only[jk,Wo,DB,ajr (hF:=e),afV,ay,<-e]
def aag:Env:=e0 [(.int .i64),(.pair (.int .u64) (.pair (.int .u64) .unit))]
def wy:ai:=KS.add 100 [(.int .i64),(.pair (.int .u64) (.pair (.int .u64) .unit))] (cP (.int .i64) (.pair (.int .u64) (.pair (.int .u64) .unit)) Q6 (fun _ r K=>K [tS r.1,tI r.2] none))
theorem o91:aJ Tryz.prog wy:=cR aag Tryz.f100 (fun R kk x0 x1 K=>ox x0 x1 (fun a0 a1=>K [tS a0,tI a1] none)) o90 (ek _ _ _ _) Tryz.func100 (by kernel_rfl) rfl (fun _ _ _ _ _ _ h=>h _ _) (fun _ _ _ _ _=>by kernel_rfl) fun R kk e x0 x1 K=>by
 simp only[Q6,ox,ay]
def og:Env:=bG.env (fun i=>bif Nat.beq i 5 then [0,6,7,19] else []) (fun i=>bif Nat.beq i 5 then [0,6,19] else []) [] [(.int .i64),(.int .i64)]
def Zr(a:Int)(b:Nat)(c:Int)(d:Nat)(e:(List Int)):Option R:=aw (ev og (wy R) kk (sub [1,1,1,0,1,0,0] (cd Tryz.f201))) [0,6,7,19] [0,6,19] k ⟨[tI a]::uS 5 ([.ptr 20 (.aZ (.fR b) (.int .u8) .unit) []]::[tI c]::uS 11 ([.ptr 20 (.aZ (.fR d) (.int .u8) .unit) []]::uS 19 [])),nS 20 ((some ⟨(.aZ .row (.int .u8) .unit),e,[]⟩)::nS 19 [])⟩ J
def zs3(a:Int)(b c:Nat)(d:(List Int)):State:=⟨[tI a]::uS 5 ([.ptr 20 (.aZ (.fR b) (.int .u8) .unit) []]::uS 12 ([.ptr 20 (.aZ (.fR c) (.int .u8) .unit) []]::uS 19 [])),nS 20 ((some ⟨(.aZ .row (.int .u8) .unit),d,[]⟩)::nS 19 [])⟩
def Qp:KX R:=(zk 0 (aF og (wy R) kk (sub [1,1,1,1] (cd Tryz.f201)) (aD og Tryz.f201.results.toList none K)))
theorem apD(a:Int)(b:Nat)(c:Int)(d:Nat)(e:(List Int)):Zr R kk (k+1) J a b c d e=
 SR a b c d e (Zr R kk k J) (fun a0 a1 a2 a3=>J (.exit 0) (zs3 a0 a1 a2 a3)):=by kernel_rfl
theorem aj2(a:Int)(b c:Nat)(d:(List Int)):Qp R kk K (.exit 0) (zs3 a b c d)=
 Zt a b c d (fun a0 a1=>K [tS a0,tB a1] none):=by kernel_rfl
theorem ank{kk:Nat}(hF:kk=ah)(Cc:Int)(nt6:Nat)(t7:Int)(Ce:Nat)(BE:(List Int)):Zr R kk k J Cc nt6 t7 Ce BE=(Hg k Cc nt6 t7 Ce BE).bind fun e=>J (.exit 0) (zs3 e.1 e.2.1 e.2.2.1 e.2.2.2):=by
 induction k generalizing Cc nt6 t7 Ce BE with
 |zero=>rfl
 |succ k ih=>
  rw[apD]
  simp only[Hg,SR,ih,ay]
def KT:ai:=wy.add 201 [(.int .i64),(.int .i64)] (cP (.int .i64) (.int .i64) Jt (fun _ r K=>K [tS r.1,tB r.2] none))
theorem o92:aJ Tryz.prog KT:=cR og Tryz.f201 (fun R kk x0 x1 K=>Zs x0 x1 (fun a0 a1=>K [tS a0,tB a1] none) (Zr R kk kk (Qp R kk K))) o91 (ek _ _ _ _) Tryz.func201 (by kernel_rfl) rfl (fun _ _ _ _ _ _ h=>h _ _) (fun _ _ _ _ _=>by kernel_rfl) fun R kk e x0 x1 K=>by
 simp only[Jt,Zs,Zt,ank (hF:=e),aj2,ay,<-e]
def z210:Env:=e0 [(.int .i64),(.int .i64),(.int .i64)]
def KU:ai:=KT.add 161 [(.int .i64),(.int .i64),(.int .i64)] (gu (.int .i64) (.int .i64) (.int .i64) qs (fun _ r K=>K [tS r.1,tI r.2] none))
theorem o93:aJ Tryz.prog KU:=gx z210 Tryz.f161 (fun R kk x0 x1 x2 K=>WH x0 x1 x2 (fun a0 a1=>K [tS a0,tI a1] none)) o92 (ek _ _ _ _) Tryz.func161 (by kernel_rfl) rfl (fun _ _ _ _ _ _ h=>h _ _) (fun _ _ _ _ _ _=>by kernel_rfl) fun R kk e x0 x1 x2 K=>by
 simp only[qs,WH,ay]
def Jf:Env:=e0 [(.int .i64),y9,.str]
def KV:ai:=KU.add 102 [(.int .i64),y9,.str] (gu (.int .i64) y9 .str Bj (fun _ r K=>K [tS r.1,tI r.2] none))
theorem o94:aJ Tryz.prog KV:=gx Jf Tryz.f102 (fun R kk x0 x1 x2 K=>YE x0 x1 x2 (fun a0 a1=>K [tS a0,tI a1] none)) o93 (ek _ _ _ _) Tryz.func102 (by kernel_rfl) rfl (fun _ _ _ _ _ _ h=>h _ _) (fun _ _ _ _ _ _=>by kernel_rfl) fun R kk e x0 x1 x2 K=>by
 simp only[Bj,YE,ay]
def Tryz.iD:Go.Shelf.Ren:=⟨fun|169=>103|n=>n,fun|70=>144|9=>9|0=>0|72=>147|37=>145|127=>217|3=>3|5=>5|n=>n,fun n=>n⟩
theorem Tryz.xa:Go.Proofs.Lays.n169 Go.Proofs.Tryz.prog Tryz.iD:={
 mixed:=by kernel_rfl,
 f169:=Go.Proofs.Tryz.func103.trans (congrArg some (by kernel_rfl)),
 t0:=Go.Proofs.Tryz.underlying0,
 a0:=Go.Proofs.Tryz.isAgg0,
 z0:=Go.Proofs.Tryz.sizeOf0,
 v0:=Go.Proofs.Tryz.zeroValue0,
 t3:=Go.Proofs.Tryz.underlying3,
 a3:=Go.Proofs.Tryz.isAgg3,
 z3:=Go.Proofs.Tryz.sizeOf3,
 v3:=Go.Proofs.Tryz.zeroValue3,
 t9:=Go.Proofs.Tryz.underlying9,
 a9:=Go.Proofs.Tryz.isAgg9,
 z9:=Go.Proofs.Tryz.sizeOf9,
 v9:=Go.Proofs.Tryz.zeroValue9,
 t37:=Go.Proofs.Tryz.underlying145,
 a37:=Go.Proofs.Tryz.isAgg145,
 z37:=Go.Proofs.Tryz.sizeOf145,
 v37:=Go.Proofs.Tryz.zeroValue145,
 t70:=Go.Proofs.Tryz.underlying144,
 a70:=Go.Proofs.Tryz.isAgg144,
 z70:=Go.Proofs.Tryz.sizeOf144,
 v70:=Go.Proofs.Tryz.zeroValue144,
 t72:=Go.Proofs.Tryz.underlying147,
 a72:=Go.Proofs.Tryz.isAgg147,
 z72:=Go.Proofs.Tryz.sizeOf147,
 v72:=Go.Proofs.Tryz.zeroValue147,
 t127:=Go.Proofs.Tryz.underlying217,
 a127:=Go.Proofs.Tryz.isAgg217,
 z127:=Go.Proofs.Tryz.sizeOf217,
 v127:=Go.Proofs.Tryz.zeroValue217}
theorem Tryz.tj:Go.Proofs.Builder.Extra Go.Proofs.Tryz.prog Tryz.iD:={
 sizeBuilder:=by kernel_rfl,
 liesBuilder:=by kernel_rfl,
 t5:=Go.Proofs.Tryz.underlying5,
 a5:=Go.Proofs.Tryz.isAgg5,
 z5:=Go.Proofs.Tryz.sizeOf5,
 v5:=Go.Proofs.Tryz.zeroValue5,
 infoByte:=by kernel_rfl,
 cellsByte:=by kernel_rfl,
 sizeByte:=by kernel_rfl,
 neB5:=by decide}
noncomputable abbrev zad:Code:=Tryz.f103.body.getD .skip
theorem z84:ri Tryz.prog 103:=⟨Tryz.f103,zad,Tryz.func103,by kernel_rfl,by kernel_rfl⟩
def wA:ai:=KV.add 103 [] (Tg 147 5)
theorem o95:aJ Tryz.prog wA:=⟨o94.mix,X6 o94.nat (ap0 _ _),agY o94.tW z84 Tryz.xa Tryz.tj rfl rfl rfl⟩
def Zh:Env:={bG.env (fun i=>bif Nat.beq i 11 then [2,5,7,8,50,51,52] else []) (fun i=>bif Nat.beq i 11 then [5,7] else []) [5] [aC,y5] with bl:=fun t=>bif Nat.beq t 147 then some 5 else none}
def XJ(a:ak)(b c:Int)(d:ag)(e:ax)(f:ByteArray):Option R:=aw (ev Zh (wA R) kk (sub [1,1,1,1,1,1,1,1,0,1,0,0] (cd Tryz.f38))) [2,5,7,8,50,51,52] [5,7] k ⟨uS 2 ([.ptr 3 aC []]::uS 2 ([.ptr 6 (.pair (.int .i64) (.pair (.int .i64) .unit)) []]::uS 1 ([.ptr 8 (.aZ (.fQ 147 5) .unit .unit) []]::[.ptr 8 (.aZ (.ru 97) (.aZ (.fQ 147 5) .unit .unit) .unit) []]::uS 41 ([.aj (.sl 90 (.pair (.int .i64) (.pair .str .unit))) a []]::[tI b]::[tI c]::uS 25 [])))),nS 3 ((some ⟨aC,d,[]⟩)::nS 2 ((some ⟨(.pair (.int .i64) (.pair (.int .i64) .unit)),e,[]⟩)::nS 1 ((some ⟨(.aZ (.fQ 147 5) .unit .unit),f,[[]]⟩)::nS 70 [])))⟩ J
def zhx(a:ax)(b:ByteArray):State:=⟨uS 5 ([.ptr 6 (.pair (.int .i64) (.pair (.int .i64) .unit)) []]::uS 1 ([.ptr 8 (.aZ (.fQ 147 5) .unit .unit) []]::uS 70 [])),nS 6 ((some ⟨(.pair (.int .i64) (.pair (.int .i64) .unit)),a,[]⟩)::nS 1 ((some ⟨(.aZ (.fQ 147 5) .unit .unit),b,[[]]⟩)::nS 70 []))⟩
def PD:KX R:=(zk 0 (aF Zh (wA R) kk (sub [1,1,1,1,1,1,1,1,1] (cd Tryz.f38)) (aD Zh Tryz.f38.results.toList none K)))
theorem am9(a:ak)(b c:Int)(d:ag)(e:ax)(f:ByteArray):XJ R kk (k+1) J a b c d e f=
 Ez a b c d e f (XJ R kk k J) (fun a0 a1=>J (.exit 0) (zhx a0 a1)):=by kernel_rfl
theorem agx(a:ax)(b:ByteArray):PD R kk K (.exit 0) (zhx a b)=
 EA a b (fun a0 a1=>K [tS a0,.aj (.pair (.int .i64) (.pair (.int .i64) .unit)) a1 []] none):=by kernel_rfl
theorem ajR{kk:Nat}(hF:kk=ah)(t50:ak)(t51 t52:Int)(cA:ag)(cV:ax)(jy:ByteArray):XJ R kk k J t50 t51 t52 cA cV jy=(Sy k t50 t51 t52 cA cV jy).bind fun e=>J (.exit 0) (zhx e.1 e.2):=by
 induction k generalizing t50 t51 t52 cA cV jy with
 |zero=>rfl
 |succ k ih=>
  rw[am9]
  simp only[Sy,Ez,ih,ay]
def KW:ai:=wA.add 38 [aC,y5] (cP aC y5 nk (fun _ r K=>K [tS r.1,.aj (.pair (.int .i64) (.pair (.int .i64) .unit)) r.2 []] none))
theorem o96:aJ Tryz.prog KW:=cR Zh Tryz.f38 (fun R kk x0 x1 K=>XK x0 x1 (fun a0 a1=>K [tS a0,.aj (.pair (.int .i64) (.pair (.int .i64) .unit)) a1 []] none) (XJ R kk kk (PD R kk K))) o95 ((ek _ _ _ _).fQ 147 5 (by kernel_rfl)) Tryz.func38 (by kernel_rfl) rfl (fun _ _ _ _ _ _ h=>h _ _) (fun _ _ _ _ _=>by kernel_rfl) fun R kk e x0 x1 K=>by
 simp only[nk,XK,EA,ajR (hF:=e),agx,ay,<-e]
def apf:Env:=e0 [y5,(.pair (.int .i64) (.pair (.int .i64) .unit)),.unit,.unit]
def wC:ai:=KW.add 36 [y5,(.pair (.int .i64) (.pair (.int .i64) .unit)),.unit,.unit] (pv y5 (.pair (.int .i64) (.pair (.int .i64) .unit)) cg dK kc (fun _ r K=>K [tI r.1,tS r.2] none))
theorem o97:aJ Tryz.prog wC:=sv apf Tryz.f36 (fun R kk x0 x1 x2 x3 K=>W3 x0 x1 x2 x3 (fun a0 a1=>K [tI a0,tS a1] none)) o96 (ek _ _ _ _) Tryz.func36 (by kernel_rfl) rfl (fun _ _ _ _ _ _ h=>h _ _) (fun _ _ _ _ _ _ _=>by kernel_rfl) fun R kk e x0 x1 x2 x3 K=>by
 simp only[kc,W3,ay]
def Zj:Env:=bG.env (fun i=>bif Nat.beq i 2 then [1,9,10,11] else []) (fun i=>bif Nat.beq i 2 then [4,5] else []) [] [bN,.str]
def X3(a:ByteArray)(b:aK)(c d:Int):Option R:=aw (ev Zj (wC R) kk (sub [1,0,1,0,0] (cd Tryz.f108))) [1,9,10,11] [4,5] k ⟨uS 1 ([tS a]::uS 7 ([.aj (.sl 116 (.pair .str (.pair .str .unit))) b []]::[tI c]::[tI d]::uS 10 [])),nS 23 []⟩ J
def zi9(a:ByteArray)(b:Bool):State:=⟨uS 4 ([tS a]::[tB b]::uS 16 []),nS 23 []⟩
def zia:State:=⟨uS 22 [],nS 23 []⟩
def EQ:KX R:=(zk 0 (aF Zj (wC R) kk (sub [1,1] (cd Tryz.f108)) (aD Zj Tryz.f108.results.toList none K)))
theorem anh(a:ByteArray)(b:aK)(c d:Int):X3 R kk (k+1) J a b c d=
 ER a b c d (fun a0 a1=>J .ret (zi9 a0 a1)) (X3 R kk k J) (J (.exit 0) (zia)):=by kernel_rfl
theorem agJ(a:ByteArray)(b:Bool):EQ R kk K .ret (zi9 a b)=
 ES a b (fun a0 a1=>K [tS a0,tB a1] none):=by kernel_rfl
theorem agK:EQ R kk K (.exit 0) (zia)=
 ET (fun a0 a1=>K [tS a0,tB a1] none):=by kernel_rfl
theorem ajY{kk:Nat}(hF:kk=ah)(t_1:ByteArray)(t9:aK)(t10 t11:Int):X3 R kk k J t_1 t9 t10 t11=(SD k t_1 t9 t10 t11).bind fun e=>(Sum.elim (fun(we:gF)=>J .ret (zi9 we.1 we.2)) (fun(we:Unit)=>J (.exit 0) (zia)) e):=by
 induction k generalizing t_1 t9 t10 t11 with
 |zero=>rfl
 |succ k ih=>
  rw[anh]
  simp only[SD,ER,ih,ay]
def wD:ai:=wC.add 108 [bN,.str] (cP bN .str sX (fun _ r K=>K [tS r.1,tB r.2] none))
theorem o98:aJ Tryz.prog wD:=cR Zj Tryz.f108 (fun R kk x0 x1 K=>X4 x0 x1 (X3 R kk kk (EQ R kk K))) o97 (ek _ _ _ _) Tryz.func108 (by kernel_rfl) rfl (fun _ _ _ _ _ _ h=>h _ _) (fun _ _ _ _ _=>by kernel_rfl) fun R kk e x0 x1 K=>by
 simp only[sX,X4,ES,ET,ajY (hF:=e),agJ,agK,ay,<-e]
def Zi:Env:={bG.env (fun i=>bif Nat.beq i 2 then [1,4,9,10,11] else []) (fun i=>bif Nat.beq i 2 then [4,5] else []) [4] [bN,(.int .i64)] with ro:=true}
def XZ(a:Int)(b:cz)(c d:Int)(e:aB):Option R:=aw (ev Zi (wD R) kk (sub [1,0,1,0,0] (cd Tryz.f109))) [1,4,9,10,11] [4,5] k ⟨uS 1 ([tI a]::uS 2 ([.ptr 5 cm []]::uS 4 ([.aj (.sl 59 cm) b []]::[tI c]::[tI d]::uS 10 []))),nS 5 ((some ⟨cm,e,[[4]]⟩)::nS 17 [])⟩ J
def zi7(a:Bool)(b:aB):State:=⟨uS 4 ([.ptr 5 cm []]::[tB a]::uS 16 []),nS 5 ((some ⟨cm,b,[]⟩)::nS 17 [])⟩
def zi8(a:aB):State:=⟨uS 4 ([.ptr 5 cm []]::uS 17 []),nS 5 ((some ⟨cm,a,[[4]]⟩)::nS 17 [])⟩
def EM:KX R:=(zk 0 (aF Zi (wD R) kk (sub [1,1] (cd Tryz.f109)) (aD Zi Tryz.f109.results.toList none K)))
theorem ang(a:Int)(b:cz)(c d:Int)(e:aB):XZ R kk (k+1) J a b c d e=
 EN a b c d e (fun a0 a1=>J .ret (zi7 a0 a1)) (XZ R kk k J) (fun a0=>J (.exit 0) (zi8 a0)):=by kernel_rfl
theorem agH(a:Bool)(b:aB):EM R kk K .ret (zi7 a b)=
 EO a b (fun a0 a1=>K [.aj cm a0 [],tB a1] none):=by kernel_rfl
theorem agI(a:aB):EM R kk K (.exit 0) (zi8 a)=
 EP a (fun a0 a1=>K [.aj cm a0 [],tB a1] none):=by kernel_rfl
theorem ajX{kk:Nat}(hF:kk=ah)(cB:Int)(t9:cz)(t10 t11:Int)(bQ:aB):XZ R kk k J cB t9 t10 t11 bQ=(SC k cB t9 t10 t11 bQ).bind fun e=>(Sum.elim (fun(we:(Bool×aB))=>J .ret (zi7 we.1 we.2)) (fun(we:aB)=>J (.exit 0) (zi8 we)) e):=by
 induction k generalizing cB t9 t10 t11 bQ with
 |zero=>rfl
 |succ k ih=>
  rw[ang]
  simp only[SC,EN,ih,ay]
def KY:ai:=wD.add 109 [bN,(.int .i64)] (cP bN (.int .i64) nm (fun _ r K=>K [.aj cm r.1 [],tB r.2] none))
theorem o99:aJ Tryz.prog KY:=cR Zi Tryz.f109 (fun R kk x0 x1 K=>X2 x0 x1 (XZ R kk kk (EM R kk K))) o98 ((ek _ _ _ _).ro _) Tryz.func109 (by kernel_rfl) rfl (fun _ _ _ _ _ _ h=>h _ _) (fun _ _ _ _ _=>by kernel_rfl) fun R kk e x0 x1 K=>by
 simp only[nm,X2,EO,EP,ajX (hF:=e),agH,agI,ay,<-e]
def Tryz.fG:Go.Shelf.Ren:=⟨fun|105=>206|212=>216|99=>217|165=>218|166=>98|170=>219|169=>103|263=>230|264=>231|206=>232|240=>152|241=>233|276=>198|277=>238|n=>n,fun|9=>9|3=>3|4=>4|20=>20|0=>0|46=>248|109=>255|5=>5|72=>147|76=>150|51=>267|146=>268|53=>101|148=>211|70=>144|37=>145|75=>149|127=>217|164=>246|80=>158|n=>n,fun n=>n⟩
theorem Tryz.dI:Go.Proofs.Lays.n105 Go.Proofs.Tryz.prog Tryz.fG:={
 mixed:=by kernel_rfl,
 f99:=Go.Proofs.Tryz.func217.trans (congrArg some (by kernel_rfl)),
 f105:=Go.Proofs.Tryz.func206.trans (congrArg some (by kernel_rfl)),
 f165:=Go.Proofs.Tryz.func218.trans (congrArg some (by kernel_rfl)),
 f166:=Go.Proofs.Tryz.func98.trans (congrArg some (by kernel_rfl)),
 f169:=Go.Proofs.Tryz.func103.trans (congrArg some (by kernel_rfl)),
 f170:=Go.Proofs.Tryz.func219.trans (congrArg some (by kernel_rfl)),
 f206:=Go.Proofs.Tryz.func232.trans (congrArg some (by kernel_rfl)),
 f212:=Go.Proofs.Tryz.func216.trans (congrArg some (by kernel_rfl)),
 f240:=Go.Proofs.Tryz.func152.trans (congrArg some (by kernel_rfl)),
 f241:=Go.Proofs.Tryz.func233.trans (congrArg some (by kernel_rfl)),
 f263:=Go.Proofs.Tryz.func230.trans (congrArg some (by kernel_rfl)),
 f264:=Go.Proofs.Tryz.func231.trans (congrArg some (by kernel_rfl)),
 f276:=Go.Proofs.Tryz.func198.trans (congrArg some (by kernel_rfl)),
 f277:=Go.Proofs.Tryz.func238.trans (congrArg some (by kernel_rfl)),
 t0:=Go.Proofs.Tryz.underlying0,
 a0:=Go.Proofs.Tryz.isAgg0,
 z0:=Go.Proofs.Tryz.sizeOf0,
 v0:=Go.Proofs.Tryz.zeroValue0,
 t3:=Go.Proofs.Tryz.underlying3,
 a3:=Go.Proofs.Tryz.isAgg3,
 z3:=Go.Proofs.Tryz.sizeOf3,
 v3:=Go.Proofs.Tryz.zeroValue3,
 t4:=Go.Proofs.Tryz.underlying4,
 a4:=Go.Proofs.Tryz.isAgg4,
 z4:=Go.Proofs.Tryz.sizeOf4,
 v4:=Go.Proofs.Tryz.zeroValue4,
 t5:=Go.Proofs.Tryz.underlying5,
 a5:=Go.Proofs.Tryz.isAgg5,
 z5:=Go.Proofs.Tryz.sizeOf5,
 v5:=Go.Proofs.Tryz.zeroValue5,
 t9:=Go.Proofs.Tryz.underlying9,
 a9:=Go.Proofs.Tryz.isAgg9,
 z9:=Go.Proofs.Tryz.sizeOf9,
 v9:=Go.Proofs.Tryz.zeroValue9,
 t20:=Go.Proofs.Tryz.underlying20,
 a20:=Go.Proofs.Tryz.isAgg20,
 z20:=Go.Proofs.Tryz.sizeOf20,
 v20:=Go.Proofs.Tryz.zeroValue20,
 t37:=Go.Proofs.Tryz.underlying145,
 a37:=Go.Proofs.Tryz.isAgg145,
 z37:=Go.Proofs.Tryz.sizeOf145,
 v37:=Go.Proofs.Tryz.zeroValue145,
 t46:=Go.Proofs.Tryz.underlying248,
 a46:=Go.Proofs.Tryz.isAgg248,
 z46:=Go.Proofs.Tryz.sizeOf248,
 v46:=Go.Proofs.Tryz.zeroValue248,
 t51:=Go.Proofs.Tryz.underlying267,
 a51:=Go.Proofs.Tryz.isAgg267,
 z51:=Go.Proofs.Tryz.sizeOf267,
 v51:=Go.Proofs.Tryz.zeroValue267,
 t53:=Go.Proofs.Tryz.underlying101,
 a53:=Go.Proofs.Tryz.isAgg101,
 z53:=Go.Proofs.Tryz.sizeOf101,
 v53:=Go.Proofs.Tryz.zeroValue101,
 t70:=Go.Proofs.Tryz.underlying144,
 a70:=Go.Proofs.Tryz.isAgg144,
 z70:=Go.Proofs.Tryz.sizeOf144,
 v70:=Go.Proofs.Tryz.zeroValue144,
 t72:=Go.Proofs.Tryz.underlying147,
 a72:=Go.Proofs.Tryz.isAgg147,
 z72:=Go.Proofs.Tryz.sizeOf147,
 v72:=Go.Proofs.Tryz.zeroValue147,
 t75:=Go.Proofs.Tryz.underlying149,
 a75:=Go.Proofs.Tryz.isAgg149,
 z75:=Go.Proofs.Tryz.sizeOf149,
 v75:=Go.Proofs.Tryz.zeroValue149,
 t76:=Go.Proofs.Tryz.underlying150,
 a76:=Go.Proofs.Tryz.isAgg150,
 z76:=Go.Proofs.Tryz.sizeOf150,
 v76:=Go.Proofs.Tryz.zeroValue150,
 t109:=Go.Proofs.Tryz.underlying255,
 a109:=Go.Proofs.Tryz.isAgg255,
 z109:=Go.Proofs.Tryz.sizeOf255,
 v109:=Go.Proofs.Tryz.zeroValue255,
 t127:=Go.Proofs.Tryz.underlying217,
 a127:=Go.Proofs.Tryz.isAgg217,
 z127:=Go.Proofs.Tryz.sizeOf217,
 v127:=Go.Proofs.Tryz.zeroValue217,
 t146:=Go.Proofs.Tryz.underlying268,
 a146:=Go.Proofs.Tryz.isAgg268,
 z146:=Go.Proofs.Tryz.sizeOf268,
 v146:=Go.Proofs.Tryz.zeroValue268,
 t148:=Go.Proofs.Tryz.underlying211,
 a148:=Go.Proofs.Tryz.isAgg211,
 z148:=Go.Proofs.Tryz.sizeOf211,
 v148:=Go.Proofs.Tryz.zeroValue211,
 t164:=Go.Proofs.Tryz.underlying246,
 a164:=Go.Proofs.Tryz.isAgg246,
 z164:=Go.Proofs.Tryz.sizeOf246,
 v164:=Go.Proofs.Tryz.zeroValue246}
theorem Tryz.me:Go.Proofs.Builder.Extra Go.Proofs.Tryz.prog Tryz.fG:={
 sizeBuilder:=by kernel_rfl,
 liesBuilder:=by kernel_rfl,
 t5:=Tryz.dI.t5,
 a5:=Tryz.dI.a5,
 z5:=Tryz.dI.z5,
 v5:=Tryz.dI.v5,
 infoByte:=by kernel_rfl,
 cellsByte:=by kernel_rfl,
 sizeByte:=by kernel_rfl,
 neB5:=by decide}
noncomputable abbrev ztq:Code:=Tryz.f206.body.getD .skip
theorem zki:ri Tryz.prog 206:=⟨Tryz.f206,ztq,Tryz.func206,by kernel_rfl,by kernel_rfl⟩
def zae:Pure:=fun R l b K=>fI b (gG .str (.int .i64) l fun x0 x1=>(strings_Repeat x0 x1).bind fun r=>K [.aj .str r []] none)
theorem ztr:zae.Nat:=fun R S l b F G K h=>Gq (Mu fun _ _=>uT fun _=>h _ _)
def oT:ai:=KY.add 206 [] zae
theorem aaJ:aJ Tryz.prog oT:=⟨o99.mix,X6 o99.nat ztr,alp o99.tW zki strings_Repeat (zex Tryz.dI Tryz.me (by kernel_rfl))⟩
def Zd:Env:=bG.env (fun i=>bif Nat.beq i 1 then [0,1] else []) (fun i=>bif Nat.beq i 1 then [0] else []) [] [.str,(.int .u8)]
def XA(a:ByteArray)(b:Int):Option R:=aw (ev Zd (oT R) kk (sub [1,0,0,0] (cd Tryz.f221))) [0,1] [0] k ⟨[tS a]::[tU b]::uS 21 [],nS 24 []⟩ J
def zht(a:ByteArray):State:=⟨[tS a]::uS 22 [],nS 24 []⟩
def PC:KX R:=(zk 0 (aF Zd (oT R) kk (sub [1,1] (cd Tryz.f221)) (aD Zd Tryz.f221.results.toList none K)))
theorem am6(a:ByteArray)(b:Int):XA R kk (k+1) J a b=
 XC a b (XA R kk k J) (fun a0=>J (.exit 0) (zht a0)):=by kernel_rfl
theorem agu(a:ByteArray):PC R kk K (.exit 0) (zht a)=
 XD a (fun a0=>K [tS a0] none):=by kernel_rfl
theorem ajN{kk:Nat}(hF:kk=ah)(dw:ByteArray)(BF:Int):XA R kk k J dw BF=(Ip k dw BF).bind fun e=>J (.exit 0) (zht e):=by
 induction k generalizing dw BF with
 |zero=>rfl
 |succ k ih=>
  rw[am6]
  simp only[Ip,XC,ih,ay]
def oU:ai:=oT.add 221 [.str,(.int .u8)] (cP .str (.int .u8) vA (fun _ r K=>K [tS r] none))
theorem aaK:aJ Tryz.prog oU:=cR Zd Tryz.f221 (fun R kk x0 x1 K=>XB x0 x1 (XA R kk kk (PC R kk K))) aaJ (ek _ _ _ _) Tryz.func221 (by kernel_rfl) rfl (fun _ _ _ _ _ _ h=>h _ _) (fun _ _ _ _ _=>by kernel_rfl) fun R kk e x0 x1 K=>by
 simp only[vA,XB,XD,ajN (hF:=e),agu,ay,<-e]
def Zc:Env:=bG.env (fun i=>bif Nat.beq i 1 then [0,1] else []) (fun i=>bif Nat.beq i 1 then [0] else []) [] [.str,(.int .u8)]
def Xw(a:ByteArray)(b:Int):Option R:=aw (ev Zc (oU R) kk (sub [1,0,0,0] (cd Tryz.f220))) [0,1] [0] k ⟨[tS a]::[tU b]::uS 15 [],nS 18 []⟩ J
def zhs(a:ByteArray):State:=⟨[tS a]::uS 16 [],nS 18 []⟩
def PB:KX R:=(zk 0 (aF Zc (oU R) kk (sub [1,1] (cd Tryz.f220)) (aD Zc Tryz.f220.results.toList none K)))
theorem am5(a:ByteArray)(b:Int):Xw R kk (k+1) J a b=
 Xy a b (Xw R kk k J) (fun a0=>J (.exit 0) (zhs a0)):=by kernel_rfl
theorem agt(a:ByteArray):PB R kk K (.exit 0) (zhs a)=
 Xz a (fun a0=>K [tS a0] none):=by kernel_rfl
theorem ajM{kk:Nat}(hF:kk=ah)(dw:ByteArray)(BF:Int):Xw R kk k J dw BF=(Io k dw BF).bind fun e=>J (.exit 0) (zhs e):=by
 induction k generalizing dw BF with
 |zero=>rfl
 |succ k ih=>
  rw[am5]
  simp only[Io,Xy,ih,ay]
def ym:ai:=oU.add 220 [.str,(.int .u8)] (cP .str (.int .u8) vz (fun _ r K=>K [tS r] none))
theorem aaL:aJ Tryz.prog ym:=cR Zc Tryz.f220 (fun R kk x0 x1 K=>Xx x0 x1 (Xw R kk kk (PB R kk K))) aaK (ek _ _ _ _) Tryz.func220 (by kernel_rfl) rfl (fun _ _ _ _ _ _ h=>h _ _) (fun _ _ _ _ _=>by kernel_rfl) fun R kk e x0 x1 K=>by
 simp only[vz,Xx,Xz,ajM (hF:=e),agt,ay,<-e]
def apt:Env:=e0 [.str,.str]
def yn:ai:=ym.add 207 [.str,.str] (cP .str .str sS (fun _ r K=>K [tS r] none))
theorem aaM:aJ Tryz.prog yn:=cR apt Tryz.f207 (fun R kk x0 x1 K=>Xv x0 x1 (fun a0=>K [tS a0] none)) aaL (ek _ _ _ _) Tryz.func207 (by kernel_rfl) rfl (fun _ _ _ _ _ _ h=>h _ _) (fun _ _ _ _ _=>by kernel_rfl) fun R kk e x0 x1 K=>by
 simp only[sS,Xv,ay]
def Js:Env:=e0 [.str,(.int .i64)]
def oV:ai:=yn.add 171 [.str,(.int .i64)] (cP .str (.int .i64) Jr (fun _ r K=>K [tS r.1,tB r.2] none))
theorem aaN:aJ Tryz.prog oV:=cR Js Tryz.f171 (fun R kk x0 x1 K=>Zq x0 x1 (fun a0 a1=>K [tS a0,tB a1] none)) aaM (ek _ _ _ _) Tryz.func171 (by kernel_rfl) rfl (fun _ _ _ _ _ _ h=>h _ _) (fun _ _ _ _ _=>by kernel_rfl) fun R kk e x0 x1 K=>by
 simp only[Jr,Zq,ay]
def n8:Env:=bG.env (fun i=>bif Nat.beq i 2 then [1,8,9,10] else []) (fun i=>bif Nat.beq i 2 then [4,5] else []) [] [(.sl 116 (.pair .str (.pair .str .unit))),.str]
def Y3(a:ByteArray)(b:aK)(c d:Int):Option R:=aw (ev n8 (oV R) kk (sub [1,0,1,0,0] (cd Tryz.f172))) [1,8,9,10] [4,5] k ⟨uS 1 ([tS a]::uS 6 ([.aj (.sl 116 (.pair .str (.pair .str .unit))) b []]::[tI c]::[tI d]::uS 10 [])),nS 22 []⟩ J
def zrw(a:ByteArray)(b:Bool):State:=⟨uS 4 ([tS a]::[tB b]::uS 15 []),nS 22 []⟩
def zrx:State:=⟨uS 21 [],nS 22 []⟩
def Fi:KX R:=(zk 0 (aF n8 (oV R) kk (sub [1,1] (cd Tryz.f172)) (aD n8 Tryz.f172.results.toList none K)))
theorem apk(a:ByteArray)(b:aK)(c d:Int):Y3 R kk (k+1) J a b c d=
 Fj a b c d (fun a0 a1=>J .ret (zrw a0 a1)) (Y3 R kk k J) (J (.exit 0) (zrx)):=by kernel_rfl
theorem ajD(a:ByteArray)(b:Bool):Fi R kk K .ret (zrw a b)=
 Fk a b (fun a0 a1=>K [tS a0,tB a1] none):=by kernel_rfl
theorem ajE:Fi R kk K (.exit 0) (zrx)=
 Fl (fun a0 a1=>K [tS a0,tB a1] none):=by kernel_rfl
theorem amX{kk:Nat}(hF:kk=ah)(nR:ByteArray)(t8:aK)(t9 t10:Int):Y3 R kk k J nR t8 t9 t10=(SP k nR t8 t9 t10).bind fun e=>(Sum.elim (fun(we:gF)=>J .ret (zrw we.1 we.2)) (fun(we:Unit)=>J (.exit 0) (zrx)) e):=by
 induction k generalizing nR t8 t9 t10 with
 |zero=>rfl
 |succ k ih=>
  rw[apk]
  simp only[SP,Fj,ih,ay]
def yp:ai:=oV.add 172 [(.sl 116 (.pair .str (.pair .str .unit))),.str] (cP (.sl 116 (.pair .str (.pair .str .unit))) .str Jp (fun _ r K=>K [tS r.1,tB r.2] none))
theorem aaO:aJ Tryz.prog yp:=cR n8 Tryz.f172 (fun R kk x0 x1 K=>Y4 x0 x1 (Y3 R kk kk (Fi R kk K))) aaN (ek _ _ _ _) Tryz.func172 (by kernel_rfl) rfl (fun _ _ _ _ _ _ h=>h _ _) (fun _ _ _ _ _=>by kernel_rfl) fun R kk e x0 x1 K=>by
 simp only[Jp,Y4,Fk,Fl,amX (hF:=e),ajD,ajE,ay,<-e]
def apg:Env:=bG.env (fun _=>[]) (fun _=>[]) [6] [cm,aC,.str]
def ku:ai:=yp.add 110 [cm,aC,.str] (gu cm aC .str nh (fun _ r K=>K [.aj (.pair (.int .i64) (.pair .str .unit)) r.1 [],tI r.2] none))
theorem aaP:aJ Tryz.prog ku:=gx apg Tryz.f110 (fun R kk x0 x1 x2 K=>W4 x0 x1 x2 (fun a0 a1=>K [.aj (.pair (.int .i64) (.pair .str .unit)) a0 [],tI a1] none)) aaO (ek _ _ _ _) Tryz.func110 (by kernel_rfl) rfl (fun _ _ _ _ _ _ h=>h _ _) (fun _ _ _ _ _ _=>by kernel_rfl) fun R kk e x0 x1 x2 K=>by
 simp only[nh,W4,ay]
def Hf:Env:={{bG.env (fun i=>bif Nat.beq i 12 then [4,6,7,8,9,16,59,60,61] else bif Nat.beq i 18 then [4,6,8,9,16,76,77,78] else []) (fun i=>bif Nat.beq i 12 then [4,6,7,8,9,16] else bif Nat.beq i 18 then [8,9,16] else []) [8,9] [bN,aC,aC,y5] with dr:=fun i=>bif Nat.beq i 12 then [17] else []} with ro:=true}
def XV(a:cz)(b c:Int)(d:al)(e:ag)(f g:af)(h:ax)(i:af):Option R:=aw (ev Hf (ku R) kk (sub [1,1,1,1,1,1,0,1,0,0] (cd Tryz.f40))) [4,6,7,8,9,16,59,60,61] [4,6,7,8,9,16] k ⟨uS 4 ([.ptr 5 bN []]::uS 1 ([.ptr 7 aC []]::[.ptr 8 y5 []]::[.ptr 9 y5 []]::[.ptr 10 (.pair (.int .i64) (.pair (.int .i64) .unit)) []]::uS 6 ([.ptr 17 y5 []]::uS 42 ([.aj (.sl 59 cm) a []]::[tI b]::[tI c]::uS 60 [])))),nS 5 ((some ⟨bN,d,[]⟩)::nS 1 ((some ⟨aC,e,[]⟩)::(some ⟨y5,f,[]⟩)::(some ⟨y5,g,[[1]]⟩)::(some ⟨(.pair (.int .i64) (.pair (.int .i64) .unit)),h,[]⟩)::nS 6 ((some ⟨y5,i,[]⟩)::nS 105 [])))⟩ J
def zi4(a:al)(b:ag)(c d:af)(e:ax)(f:af):State:=⟨uS 4 ([.ptr 5 bN []]::uS 1 ([.ptr 7 aC []]::[.ptr 8 y5 []]::[.ptr 9 y5 []]::[.ptr 10 (.pair (.int .i64) (.pair (.int .i64) .unit)) []]::uS 6 ([.ptr 17 y5 []]::uS 105 []))),nS 5 ((some ⟨bN,a,[]⟩)::nS 1 ((some ⟨aC,b,[]⟩)::(some ⟨y5,c,[]⟩)::(some ⟨y5,d,[[1]]⟩)::(some ⟨(.pair (.int .i64) (.pair (.int .i64) .unit)),e,[]⟩)::nS 6 ((some ⟨y5,f,[]⟩)::nS 105 [])))⟩
def PE:KX R:=(zk 0 (aF Hf (ku R) kk (sub [1,1,1,1,1,1,1] (cd Tryz.f40)) (aD Hf Tryz.f40.results.toList none K)))
def XW(a:ak)(b c:Int)(d:al)(e:ag)(f:af)(g:ax)(h:af):Option R:=aw (ev Hf (ku R) kk (sub [1,1,1,1,1,1,1,0,1,0,0] (cd Tryz.f40))) [4,6,8,9,16,76,77,78] [8,9,16] k ⟨uS 4 ([.ptr 5 bN []]::uS 1 ([.ptr 7 aC []]::uS 1 ([.ptr 9 y5 []]::[.ptr 10 (.pair (.int .i64) (.pair (.int .i64) .unit)) []]::uS 6 ([.ptr 17 y5 []]::uS 59 ([.aj (.sl 90 (.pair (.int .i64) (.pair .str .unit))) a []]::[tI b]::[tI c]::uS 43 []))))),nS 5 ((some ⟨bN,d,[]⟩)::nS 1 ((some ⟨aC,e,[]⟩)::nS 1 ((some ⟨y5,f,[[1]]⟩)::(some ⟨(.pair (.int .i64) (.pair (.int .i64) .unit)),g,[]⟩)::nS 6 ((some ⟨y5,h,[]⟩)::nS 105 []))))⟩ J
def zi5(a:af)(b:ax)(c:af):State:=⟨uS 8 ([.ptr 9 y5 []]::[.ptr 10 (.pair (.int .i64) (.pair (.int .i64) .unit)) []]::uS 6 ([.ptr 17 y5 []]::uS 105 [])),nS 9 ((some ⟨y5,a,[[1]]⟩)::(some ⟨(.pair (.int .i64) (.pair (.int .i64) .unit)),b,[]⟩)::nS 6 ((some ⟨y5,c,[]⟩)::nS 105 []))⟩
def zi6(a:af)(b:ax)(c:af):State:=⟨uS 8 ([.ptr 9 y5 []]::[.ptr 10 (.pair (.int .i64) (.pair (.int .i64) .unit)) []]::uS 6 ([.ptr 17 y5 []]::uS 105 [])),nS 9 ((some ⟨y5,a,[[1]]⟩)::(some ⟨(.pair (.int .i64) (.pair (.int .i64) .unit)),b,[]⟩)::nS 6 ((some ⟨y5,c,[]⟩)::nS 105 []))⟩
def EJ:KX R:=(zk 2 (aF Hf (ku R) kk (sub [1,1,1,1,1,1,1,1] (cd Tryz.f40)) (aD Hf Tryz.f40.results.toList none K)))
theorem ane(a:cz)(b c:Int)(d:al)(e:ag)(f g:af)(h:ax)(i:af):XV R kk (k+1) J a b c d e f g h i=
 z143 a b c d e f g h i (XV R kk k J) (fun a0 a1 a2 a3 a4 a5=>J (.exit 0) (zi4 a0 a1 a2 a3 a4 a5)):=by kernel_rfl
theorem agE(a:al)(b:ag)(c d:af)(e:ax)(f:af):PE R kk K (.exit 0) (zi4 a b c d e f)=
 XY a b c d e f (XW R kk kk (EJ R kk K)):=by kernel_rfl
theorem anf(a:ak)(b c:Int)(d:al)(e:ag)(f:af)(g:ax)(h:af):XW R kk (k+1) J a b c d e f g h=
 EK a b c d e f g h (fun a0 a1 a2=>J .ret (zi5 a0 a1 a2)) (XW R kk k J) (fun a0 a1 a2=>J (.exit 2) (zi6 a0 a1 a2)):=by kernel_rfl
theorem agF(a:af)(b:ax)(c:af):EJ R kk K .ret (zi5 a b c)=
 z145 a b c (fun a0 a1=>K [.aj y5 a0 [],.aj (.pair (.int .i64) (.pair (.int .i64) .unit)) a1 []] none):=by kernel_rfl
theorem agG(a:af)(b:ax)(c:af):EJ R kk K (.exit 2) (zi6 a b c)=
 EL a b c (fun a0 a1=>K [.aj y5 a0 [],.aj (.pair (.int .i64) (.pair (.int .i64) .unit)) a1 []] none):=by kernel_rfl
theorem ajV{kk:Nat}(hF:kk=ah)(t59:cz)(t60 t61:Int)(bQ:al)(eL:ag)(jy gd:af)(jz:ax)(jw:af):XV R kk k J t59 t60 t61 bQ eL jy gd jz jw=(SA k t59 t60 t61 bQ eL jy gd jz jw).bind fun e=>J (.exit 0) (zi4 e.1 e.2.1 e.2.2.1 e.2.2.2.1 e.2.2.2.2.1 e.2.2.2.2.2):=by
 induction k generalizing t59 t60 t61 bQ eL jy gd jz jw with
 |zero=>rfl
 |succ k ih=>
  rw[ane]
  simp only[SA,z143,ih,ay]
theorem ajW{kk:Nat}(hF:kk=ah)(t76:ak)(t77 t78:Int)(bQ:al)(eL:ag)(gd:af)(jz:ax)(jw:af):XW R kk k J t76 t77 t78 bQ eL gd jz jw=(SB k t76 t77 t78 bQ eL gd jz jw).bind fun e=>(Sum.elim (fun(we:nu)=>J .ret (zi5 we.1 we.2.1 we.2.2)) (fun(we:nu)=>J (.exit 2) (zi6 we.1 we.2.1 we.2.2)) e):=by
 induction k generalizing t76 t77 t78 bQ eL gd jz jw with
 |zero=>rfl
 |succ k ih=>
  rw[anf]
  simp only[SB,EK,ih,ay]
def yq:ai:=ku.add 40 [bN,aC,aC,y5] (xf bN aC aC y5 qy (fun _ r K=>K [.aj y5 r.1 [],.aj (.pair (.int .i64) (.pair (.int .i64) .unit)) r.2 []] none))
theorem aaQ:aJ Tryz.prog yq:=AD Hf Tryz.f40 (fun R kk x0 x1 x2 x3 K=>XX x0 x1 x2 x3 (fun a0 a1=>K [.aj y5 a0 [],.aj (.pair (.int .i64) (.pair (.int .i64) .unit)) a1 []] none) (XV R kk kk (PE R kk K))) aaP (((ek _ _ _ _).dr _).ro _) Tryz.func40 (by kernel_rfl) rfl (fun _ _ _ _ _ _ h=>h _ _) (fun _ _ _ _ _ _ _=>by kernel_rfl) fun R kk e x0 x1 x2 x3 K=>by
 simp only[qy,XX,XY,z145,EL,ajV (hF:=e),ajW (hF:=e),agE,agF,agG,ay,<-e]
def ape:Env:={e0 [dK,(.int .i64),.str] with fr:=fun i=>bif Nat.beq i 5 then [12,4] else []}
def yr:ai:=yq.add 14 [dK,(.int .i64),.str] (gu dK (.int .i64) .str lU (fun _ r K=>K [tI r.1,tS r.2] none))
theorem aaR:aJ Tryz.prog yr:=gx ape Tryz.f14 (fun R kk x0 x1 x2 K=>W0 x0 x1 x2 (fun a0 a1=>K [tI a0,tS a1] none)) aaQ ((ek _ _ _ _).fr _) Tryz.func14 (by kernel_rfl) rfl (fun _ _ _ _ _ _ h=>h _ _) (fun _ _ _ _ _ _=>by kernel_rfl) fun R kk e x0 x1 x2 K=>by
 simp only[lU,W0,ay]
def JG:Env:=e0 []
def oW:ai:=yr.add 9 [] (Cj Bp (fun _ r K=>K [tB r] none))
theorem aaS:aJ Tryz.prog oW:=HP JG Tryz.f9 (fun R kk K=>Fw (fun a0=>K [tB a0] none)) aaR (ek _ _ _ _) Tryz.func9 (by kernel_rfl) rfl (fun _ _ _ _ _ _ h=>h _ _) (fun _ _ _=>by kernel_rfl) fun R kk e K=>by
 simp only[Bp,Fw,ay]
def YJ:Env:=bG.env (fun i=>bif Nat.beq i 4 then [1,3] else []) (fun i=>bif Nat.beq i 4 then [2] else []) [] [cg]
def V4(a:Int)(b:au):Option R:=aw (ev YJ (oW R) kk (sub [1,1,0,1,0,0] (cd Tryz.f28))) [1,3] [2] k ⟨uS 1 ([.ptr 2 cg []]::uS 1 ([tI a]::uS 32 [])),nS 2 ((some ⟨cg,b,[]⟩)::nS 34 [])⟩ J
def zgh(a:Bool):State:=⟨uS 2 ([tB a]::uS 33 []),nS 37 []⟩
def zgi:State:=⟨uS 36 [],nS 37 []⟩
def De:KX R:=(zk 0 (aF YJ (oW R) kk (sub [1,1,1] (cd Tryz.f28)) (aD YJ Tryz.f28.results.toList none K)))
theorem amC(a:Int)(b:au):V4 R kk (k+1) J a b=
 Df a b (fun a0=>J .ret (zgh a0)) (V4 R kk k J) (J (.exit 0) (zgi)):=by kernel_rfl
theorem afK(a:Bool):De R kk K .ret (zgh a)=
 Dg a (fun a0=>K [tB a0] none):=by kernel_rfl
theorem afL:De R kk K (.exit 0) (zgi)=
 Dh (fun a0=>K [tB a0] none):=by kernel_rfl
end
end Go.Proofs.YtkgpjibbdpikcaaGreatDoor

