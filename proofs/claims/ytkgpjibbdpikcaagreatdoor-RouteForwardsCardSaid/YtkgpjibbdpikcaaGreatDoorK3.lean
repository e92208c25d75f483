/- No condition. -/
import Derived.Test.YtkgpjibbdpikcaaGreatDoorK2
set_option linter.unusedVariables false
set_option linter.unusedSimpArgs false
set_option maxRecDepth 100000
namespace bu
open Go.IntKind renaming wrap->zW,i64->zI,u8->zU
open Go Go.Ref
abbrev aO:=Int×ByteArray×Unit
theorem zss(l:List aO)(hl:l.length<=9223372036854775807)(t:Int):∀(m j k:Nat),j+m=l.length->m<k->CB k l (l.length:Int) t (j:Int)=some (if t∈(l.drop j).map (fun v=>v.1) then .inl true else .inr ())
 |m,j,0,_,hk=>by omega
 |0,j,k+1,hj,hk=>by
  unfold CB LV
  rw[zF (by omega),List.drop_eq_nil_of_le (by omega)];rfl
 |m+1,j,k+1,hj,hk=>by
  have ap:j<l.length:=by omega
  have hg:∀d,l.getD j d=l[j]:=fun d=>by rw[List.getD_eq_getElem?_getD,List.getElem?_eq_getElem ap];rfl
  unfold CB LV
  rw[zT (by omega),zC,zi ap,Int.toNat_natCast,hg,List.drop_eq_getElem_cons ap,List.map_cons]
  by_cases h:l[j].1=t
  ·rw[zT h,if_pos (by rw[h];exact List.mem_cons_self)];rfl
  ·rw[zF h,zD,zr (by omega)]
   dsimp only
   rw[zss l hl t m (j+1) k (by omega) (by omega)]
   by_cases h2:t∈(l.drop (j+1)).map (fun v=>v.1)
   ·rw[if_pos h2,if_pos (List.mem_cons_of_mem _ h2)]
   ·rw[if_neg h2,if_neg (fun h3=>(List.mem_cons.1 h3).elim (fun e=>h e.symm) h2)]
theorem HW(l:List aO)(hl:l.length<=maxLen)(t:Int):EO l (l.length:Int) t=some (decide (t∈l.map fun v=>v.1)):=by
 rw[zj] at hl
 unfold EO R7
 dsimp only
 have:=zss l hl t l.length 0 ae (by omega) (by rw[zq];omega)
 rw[show((0:Nat):Int)=(0:Int) from rfl,List.drop_zero] at this
 rw[this,Option.bind_some]
 by_cases h:t∈l.map fun v=>v.1
 ·rw[if_pos h,zT h];rfl
 ·rw[if_neg h,zF h];rfl
theorem Iq(b:ByteArray)(hb:b.size<=9223372036854775000):∀(k:Nat) (t5:List aO) (t7:Int),t5.length<=5864062014805->Dl k b t5 t7 (de (t5.map fun v=>v.1))=yy k b t5 t7
 |0,_,_,_=>rfl
 |k+1,t5,t7,hl=>by
  unfold Dl Pw yy LU
  rw[ZI b hb]
  generalize decide (t7<(b.size:Int))=c0
  cases c0 with
  |false=>rfl
  |true=>
   simp only[zC]
   cases wI b t7 with
   |none=>rfl
   |some r1=>
    simp only[Option.bind_some]
    generalize(!decide (r1.2.2=0))=c1
    cases c1 with
    |true=>rfl
    |false=>
     simp only[zD]
     rw[Yw b hb]
     cases wJ b r1.2.1 with
     |none=>rfl
     |some r2=>
      simp only[Option.bind_some]
      generalize(!decide (r2.2.2=0))=c2
      cases c2 with
      |true=>rfl
      |false=>
       simp only[zD]
       generalize decide (zW zI ((b.size:Int)-r2.2.1)<r2.1)=c3
       cases c3 with
       |true=>rfl
       |false=>
        simp only[zD]
        rw[HW t5 (by rw[zj];omega),Option.bind_some]
        have e1:=Nb (ff (.int .i64)) (fun _ _=>rfl) r1.1 (t5.map fun v=>v.1)
        have e2:=Nc (ff (.int .i64)) (fun _ _=>rfl) r1.1 (t5.map fun v=>v.1)
        by_cases hm:r1.1∈t5.map fun v=>v.1
        ·rw[e1.2 hm,zT hm];rfl
        ·rw[C6 e1 hm,C6 e2 hm,zF hm]
         simp only[zD]
         rw[z95]
         have hs:(t5.map fun v=>v.1)++ [r1.1]=(t5++ [((r1.1,(b.extract r2.2.1.toNat (zW zI (r2.2.1+r2.1)).toNat),()):aO)]).map fun v=>v.1:=by simp
         rw[hs]
         by_cases hn:(t5.length+1)*24<=140737488355328
         ·rw[Iq b hb k _ _ (by simp;omega)]
         ·have:decide ((t5.length+(List.length ([(r1.1,(b.extract r2.2.1.toNat (zW zI (r2.2.1+r2.1)).toNat),())]:List aO)))*24<=140737488355328)=false:=zF (by simp;omega)
          simp only[this,zD]
theorem ZL(b:ByteArray)(hb:b.size<=9223372036854775000):qZ b=wK b:=by
 unfold qZ Pv wK LS
 dsimp only
 have:=Iq b hb ae [] 0 (by simp)
 rw[show de (([]:List aO).map fun v=>v.1)=[] from rfl] at this
 rw[this]
 rfl
theorem abN(s:Spec)(x:ByteArray)(hx:x.size<=9223372036854775000):bB s x=lF s x:=by
 unfold bB Pb lF DI
 rw[Kn,sM,Z3 _ _ (by rw[zj];omega),zbx _ _ (by rw[zj];omega),ZL x hx]
theorem VK(a b:Spec):kC a b=yR a b:=by
 unfold kC Pc yR R9 tN Pd
 rw[Kn,sM,Kn,sM,abO,zc1]
 simp only[Option.bind_some]
 by_cases h1:bf a=0
 ·by_cases h2:bf b=0
  ·simp only[h1,h2,decide_true,zC,Bool.not_true,zD]
   by_cases h3:a.2.2.2.1<=b.2.2.2.1
   ·rw[zT h3,zF (by omega:¬b.2.2.2.1<a.2.2.2.1)]
    by_cases h4:b.2.2.2.2.1<=a.2.2.2.2.1
    ·rw[zT h4,zF (by omega:¬a.2.2.2.2.1<b.2.2.2.2.1)]
     simp only[zC,zD]
     by_cases h5:a.2.1=5
     ·simp [h5]
     ·by_cases h6:a.2.1=6
      ·simp [h6]
      ·by_cases h7:b.2.1=6
       ·simp [h5,h6,h7]
       ·simp [h5,h6,h7]
    ·rw[zF h4,zT (by omega:a.2.2.2.2.1<b.2.2.2.2.1)];rfl
   ·rw[zF h3,zT (by omega:b.2.2.2.1<a.2.2.2.1)];rfl
  ·simp [h1,h2]
 ·simp [h1]
theorem ZJ(s:ByteArray)(hs:s.size<=9223372036854775000)(a:Int)(h0:0<=a)(h1:a<s.size):∃r,wI s a=some r/\(r.2.2=0->a<r.2.1/\r.2.1<=s.size):=by
 unfold wI LQ
 have wa:∀{R:Type} (x:Option R),zd a s.size x=x:=fun x=>zm (by omega) (by omega)
 rw[zF (by omega:¬a<0),zF (by omega:¬(s.size:Int)<a),zF (by omega:¬a=(s.size:Int))]
 simp only[zD,wa]
 obtain⟨x,hx⟩:=lf (z21 s a.toNat)
 have w1:zW zI (a+1)=a+1:=zg (by omega) (by omega)
 have w4:zW zI ((s.size:Int)-a)=(s.size:Int)-a:=zg (by omega) (by omega)
 rw[hx,w1,w4]
 rcases zcl x with h|⟨h,zQ⟩|⟨h,zQ⟩
 ·rw[h];exact⟨_,rfl,fun h=>by cases h⟩
 ·rw[h]
  exact⟨_,rfl,fun _=>⟨by show a<a+1;omega,by show a+1<=_;omega⟩⟩
 ·rw[h,Option.bind_some]
  simp only[show decide ((2:Int)=0)=false from rfl,show decide ((2:Int)=1)=false from rfl,zD]
  by_cases h4:(s.size:Int)-a<2
  ·rw[zT h4];exact⟨_,rfl,fun h=>by cases h⟩
  ·have wb:∀{R:Type} (x:Option R),zd (a+1) s.size x=x:=fun x=>zm (by omega) (by omega)
   have w2:zW zI (a+2)=a+2:=zg (by omega) (by omega)
   rw[zF h4]
   simp only[zD,wb]
   generalize decide (ze s (a+1).toNat=0)=c1
   generalize decide ((127:Int)<ze s (a+1).toNat)=c2
   cases c1
   ·cases c2
    ·exact⟨_,rfl,fun _=>⟨by show a<zW zI (a+2);rw[w2];omega,by show zW zI (a+2)<=_;rw[w2];omega⟩⟩
    ·exact⟨_,rfl,fun h=>by cases h⟩
   ·exact⟨_,rfl,fun h=>by cases h⟩
theorem Yx(s:ByteArray)(hs:s.size<=9223372036854775000)(a:Int)(h0:0<=a)(h1:a<=s.size):∃r,wJ s a=some r/\(r.2.2=0->a<r.2.1/\r.2.1<=s.size/\0<=r.1/\r.1<=65535):=by
 unfold wJ LR
 rw[zF (by omega:¬a<0),zF (by omega:¬(s.size:Int)<a)]
 simp only[zD]
 by_cases he:a=(s.size:Int)
 ·rw[zT he];exact⟨_,rfl,fun h=>by cases h⟩
 have wa:∀{R:Type} (x:Option R),zd a s.size x=x:=fun x=>zm (by omega) (by omega)
 rw[zF he]
 simp only[zD,wa]
 obtain⟨x,hx⟩:=lf (z21 s a.toNat)
 have sf:=x.2
 have w1:zW zI (a+1)=a+1:=zg (by omega) (by omega)
 have w2:zW zI (x.1:Int)=(x.1:Int):=zg (by omega) (by omega)
 have w4:zW zI ((s.size:Int)-a)=(s.size:Int)-a:=zg (by omega) (by omega)
 have w7:zW zI ((x.1:Int)-127)=(x.1:Int)-127:=zg (by omega) (by omega)
 simp only[hx,w2,w1,w4,w7]
 by_cases h4:(x.1:Int)<128
 ·rw[zT h4]
  exact⟨_,rfl,fun _=>⟨by show a<a+1;omega,by show a+1<=_;omega,by show(0:Int)<=(x.1:Int);omega,by show(x.1:Int)<=65535;omega⟩⟩
 rw[zF h4]
 have SL:∀i,zn (ze s i):=z21 s
 by_cases h5:(x.1:Int)=129
 ·have wb:(s.size:Int)-a<(x.1:Int)-127\/∀{R:Type} (x:Option R),zd (a+1) s.size x=x:=by
   by_cases h:(s.size:Int)-a<(x.1:Int)-127
   ·exact .inl h
   ·exact .inr fun x=>zm (by omega) (by omega)
  rw[zT h5]
  simp only[Bool.not_true,zD,zC]
  by_cases h6:(s.size:Int)-a<(x.1:Int)-127
  ·rw[zT h6];exact⟨_,rfl,fun h=>by cases h⟩
  ·have wb:∀{R:Type} (x:Option R),zd (a+1) s.size x=x:=fun x=>zm (by omega) (by omega)
   have w8:zW zI (a+2)=a+2:=zg (by omega) (by omega)
   obtain⟨y,hy⟩:=lf (SL (a+1).toNat)
   have ME:=y.2
   have w3:zW zI (y.1:Int)=(y.1:Int):=zg (by omega) (by omega)
   rw[zF h6]
   simp only[zD,wb,hy,w3,w8]
   generalize decide ((y.1:Int)<128)=c
   cases c
   ·exact⟨_,rfl,fun _=>⟨by show a<a+2;omega,by show a+2<=_;omega,by show(0:Int)<=(y.1:Int);omega,by show(y.1:Int)<=65535;omega⟩⟩
   ·exact⟨_,rfl,fun h=>by cases h⟩
 ·rw[zF h5]
  simp only[Bool.not_false,zD,zC]
  by_cases h9:(x.1:Int)=130
  ·rw[zT h9]
   simp only[Bool.not_true,zD]
   by_cases h6:(s.size:Int)-a<(x.1:Int)-127
   ·rw[zT h6];exact⟨_,rfl,fun h=>by cases h⟩
   ·have wb:∀{R:Type} (x:Option R),zd (a+1) s.size x=x:=fun x=>zm (by omega) (by omega)
    have w8:zW zI (a+2)=a+2:=zg (by omega) (by omega)
    have w9:zW zI (a+3)=a+3:=zg (by omega) (by omega)
    have wd:∀{R:Type} (x:Option R),zd (a+2) s.size x=x:=fun x=>zm (by omega) (by omega)
    obtain⟨y,hy⟩:=lf (SL (a+1).toNat)
    obtain⟨z,hz⟩:=lf (SL (a+2).toNat)
    have ME:=y.2
    have Tz:=z.2
    have w3:zW zI (y.1:Int)=(y.1:Int):=zg (by omega) (by omega)
    have He:zW zI (z.1:Int)=(z.1:Int):=zg (by omega) (by omega)
    have U9:zW zI (256*(y.1:Int))=256*(y.1:Int):=zg (by omega) (by omega)
    have Va:zW zI (256*(y.1:Int)+(z.1:Int))=256*(y.1:Int)+(z.1:Int):=zg (by omega) (by omega)
    rw[zF h6]
    simp only[zD,wb,w8,wd,hy,hz,w3,He,U9,Va,w9]
    generalize decide ((y.1:Int)=0)=c
    cases c
    ·exact⟨_,rfl,fun _=>⟨by show a<a+3;omega,by show a+3<=_;omega,by show(0:Int)<=256*(y.1:Int)+(z.1:Int);omega,by show 256*(y.1:Int)+(z.1:Int)<=65535;omega⟩⟩
    ·exact⟨_,rfl,fun h=>by cases h⟩
  ·rw[zF h9];exact⟨_,rfl,fun h=>by cases h⟩
theorem z98(b:ByteArray)(hb:b.size<=1099511627776):∀(n:Nat) (k:Nat) (t5:List aO) (a:Int),0<=a->a<=b.size->(b.size:Int)-a<=n->n<k->t5.length+n<=2199023255552->∃r,yy k b t5 a=some r
 |n,0,_,_,_,_,_,h,_=>by omega
 |n,k+1,t5,a,h0,h1,h2,h3,h4=>by
  unfold yy LU
  by_cases ap:a<(b.size:Int)
  ·obtain⟨r1,e1,p1⟩:=ZJ b (by omega) a h0 ap
   rw[zT ap,e1,Option.bind_some,zC]
   by_cases z1:r1.2.2=0
   ·obtain⟨q1,q2⟩:=p1 z1
    obtain⟨r2,e2,p2⟩:=Yx b (by omega) r1.2.1 (by omega) q2
    simp only[z1,decide_true,Bool.not_true,zD]
    rw[e2,Option.bind_some]
    by_cases z2:r2.2.2=0
    ·obtain⟨u1,u2,u3,u4⟩:=p2 z2
     simp only[z2,decide_true,Bool.not_true,zD]
     have w1:zW zI ((b.size:Int)-r2.2.1)=(b.size:Int)-r2.2.1:=zg (by omega) (by omega)
     have w2:zW zI (r2.2.1+r2.1)=r2.2.1+r2.1:=zg (by omega) (by omega)
     rw[w1,w2]
     by_cases z3:(b.size:Int)-r2.2.1<r2.1
     ·rw[zT z3];exact⟨_,rfl⟩
     ·rw[zF z3,zD,HW t5 (by rw[zj];omega),Option.bind_some]
      generalize decide (r1.1∈t5.map fun v=>v.1)=c
      cases c with
      |true=>exact⟨_,rfl⟩
      |false=>
       rw[zD,zT (by omega:0<=r2.2.1+r2.1),zT (by omega:r2.2.1+r2.1<=(((b.size:Nat):Int))),zT (by omega:0<=r2.2.1),zT (by omega:r2.2.1<=(((r2.2.1+r2.1).toNat:Nat):Int)),zT (by simp;omega)]
       simp only[zC]
       obtain⟨n,rfl⟩:∃n',n=n'+1:=⟨n-1,by omega⟩
       exact z98 b hb n k _ _ (by omega) (by omega) (by omega) (by omega) (by simp;omega)
    ·simp only[z2,decide_false,Bool.not_false,zC];exact⟨_,rfl⟩
   ·simp only[z1,decide_false,Bool.not_false,zC];exact⟨_,rfl⟩
  ·rw[zF ap];exact⟨_,rfl⟩
theorem zmo(b:ByteArray)(hb:b.size<=1099511627776):∃r,wK b=some r:=by
 unfold wK LS
 dsimp only
 obtain⟨r,hr⟩:=z98 b hb b.size ae [] 0 (by omega) (by omega) (by omega) (by rw[zq];omega) (by simp;omega)
 rw[hr,Option.bind_some]
 cases r<;>exact⟨_,rfl⟩
@[irreducible] def aY (s:Spec) (x:ByteArray):Int:=(lF s x).getD 0
theorem BO(s:Spec)(x:ByteArray)(hx:x.size<=1099511627776):lF s x=some (aY s x):=by
 have:∃v,lF s x=some v:=by
  unfold lF DI
  rw[sM,Option.bind_some,zbx _ _ (by rw[zj];omega),Option.bind_some]
  obtain⟨r,hr⟩:=zmo x hx
  rw[hr,Option.bind_some]
  generalize(!decide (bf s=0))=c1
  generalize decide ((x.size:Int)<s.2.2.2.1)=c2
  generalize decide (s.2.2.2.2.1<(x.size:Int))=c3
  generalize decide ((0:Int)<=oX s.2.1 (bl x) 0)=c4
  generalize decide (s.2.1=6)=c5
  cases c1<;>cases c2<;>cases c3<;>cases c4<;>cases c5<;>first|exact⟨_,rfl⟩|skip
  cases r with
  |inl r=>simp only[zD,zC,Sum.elim_inl];cases(!decide (r.2.1=0))<;>exact⟨_,rfl⟩
  |inr r=>simp only[zD,zC,Sum.elim_inr];cases(!decide (r.2.1=0))<;>exact⟨_,rfl⟩
 obtain⟨v,hv⟩:=this
 unfold aY
 rw[hv];rfl
theorem te(s:Spec)(x:ByteArray)(hx:x.size<=1099511627776):bB s x=some (aY s x):=by
 rw[abN s x (by omega),BO s x hx]
@[irreducible] def ml (a b:Spec):Bool:=(yR a b).getD false
theorem zs6(a b:Spec):yR a b=some (ml a b):=by
 have:∃v,yR a b=some v:=by
  unfold yR R9
  rw[sM,sM,zc1]
  simp only[Option.bind_some]
  generalize(!decide (bf a=0))=c1
  generalize(!decide (bf b=0))=c2
  generalize decide (b.2.2.2.1<a.2.2.2.1)=c3
  generalize decide (a.2.2.2.2.1<b.2.2.2.2.1)=c4
  generalize decide (a.2.1=5)=c5
  generalize decide (a.2.1=6)=c6
  generalize decide (b.2.1=6)=c7
  cases c1<;>cases c2<;>cases c3<;>cases c4<;>cases c5<;>cases c6<;>cases c7<;>exact⟨_,rfl⟩
 obtain⟨v,hv⟩:=this
 unfold ml
 rw[hv];rfl
theorem Yo(a b:Spec):kC a b=some (ml a b):=by rw[VK,zs6]
abbrev aS:=Int×Int×Int×ByteArray×List bK×Unit
def aN(s:zf)(no:Int):Spec:=(fg s.2.2.1 no).getD eh
def bp(s:zf)(no:Int):Bool:=(fg s.2.2.1 no).isSome
theorem vG(s:zf)(no:Int)(hl:s.2.2.1.length<=maxLen):eP s no=some (aN s no,bp s no):=by
 rw[adh s no hl]
 unfold aN bp
 cases fg s.2.2.1 no<;>rfl
theorem zgw(s:zf)(no:Int):(fX s.2.2.1 no 0= -1/\bp s no=false/\aN s no=eh)\/(0<=fX s.2.2.1 no 0/\fX s.2.2.1 no 0<s.2.2.1.length/\bp s no=true/\s.2.2.1.getD (fX s.2.2.1 no 0).toNat eh=aN s no):=by
 unfold bp aN
 rcases WL s.2.2.1 no 0 (Int.le_refl _) with⟨h1,h2⟩|⟨h1,h2,x,h3,h4⟩
 ·left;rw[h2];exact⟨h1,rfl,rfl⟩
 ·right;rw[h3];rw[Int.sub_zero] at h4;exact⟨h1,by omega,rfl,h4⟩
def eH(r:aS)(a b:zf):Bool:=
 (bif decide (r.1=3) then !decide (r.2.1=0) else !bp a r.2.1)||(bif decide (r.1=2) then !decide (r.2.2.1=0) else !bp b r.2.2.1)
def me(r:aS):Bool:=(!decide (r.2.2.2.1=bs [])&& !decide (r.1=3))||(decide (0<(r.2.2.2.2.1.length:Int))&& !decide (r.1=5))
def jt(s:Spec):Bool:=decide (s.2.1=1)&&decide (s.2.2.1=1)
def jy:List bK->Spec->Spec->Int
 | [],_,_=>0
 |p::r,x,y=>bif !decide (aY x p.1=0) then aY x p.1 else bif !decide (aY y p.2.1=0) then aY y p.2.1 else jy r x y
def Sp(l:List bK)(x y:Spec):Int:=bif(!decide ((Ma l).1=0)||decide ((l.length:Int)=0)) then 15 else jy l x y
def kh(r:aS)(x y:Spec):Int:=
 bif decide (r.1=1) then(bif ml y x then 0 else 6) else bif decide (r.1=3) then aY y r.2.2.2.1 else bif decide (r.1=4) then(bif jt x&&jt y then 0 else 6) else bif decide (r.1=5) then Sp r.2.2.2.2.1 x y else 0
def dF(r:aS)(a b:zf):Int:=
 bif decide (r.1<1)||decide (5<r.1) then 1 else bif eH r a b then 9 else bif me r then 3 else kh r (aN a r.2.1) (aN b r.2.2.1)
structure ej(l:List bK):Prop where
 len:l.length<=1000000
 sz:∀p∈l,p.1.size<=1099511627776/\p.2.1.size<=1099511627776
structure gP(r:aS):Prop where
 text:r.2.2.2.1.size<=1099511627776
 iq:ej r.2.2.2.2.1
theorem ae4(r:aS)(a b:zf)(ha:a.2.2.1.length<=maxLen)(hb:b.2.2.1.length<=maxLen):qR r a b=some (aN a r.2.1,aN b r.2.2.1,bif eH r a b then 9 else 0):=by
 unfold qR OT eH
 rw[vG a _ ha,vG b _ hb]
 simp only[Option.bind_some]
 generalize decide (r.1=3)=k3
 generalize decide (r.1=2)=k2
 generalize decide (r.2.1=0)=z1
 generalize decide (r.2.2.1=0)=z2
 generalize bp a r.2.1=h1
 generalize bp b r.2.2.1=h2
 cases k3<;>cases k2<;>cases z1<;>cases z2<;>cases h1<;>cases h2<;>rfl
theorem Zo(s:Spec):ix s=some (jt s):=by
 unfold ix OU jt
 generalize decide (s.2.1=1)=c1
 generalize decide (s.2.2.1=1)=c2
 cases c1<;>cases c2<;>rfl
def vC(v:Int):Sum Int Unit:=if v=0 then .inr () else .inl v
theorem zzz(x y:Spec):∀(l:List bK) (i:Int),(∀p∈l,p.1.size<=1099511627776/\p.2.1.size<=1099511627776)->
 bc (fun i (p:bK) (s:Unit) K=>((bB x p.1).bind fun r2=>(bif(!decide (r2=0)) then some (Sum.inl r2) else((bB y p.2.1).bind fun r3=>(bif(!decide (r3=0)) then some (Sum.inl r3) else K s))))) (fun _=>some (Sum.inr ())) l i ()=some (vC (jy l x y))
 | [],i,_=>rfl
 |p::r,i,h=>by
  obtain⟨h1,h2⟩:=h p List.mem_cons_self
  simp only[bc,jy]
  rw[te x p.1 h1,Option.bind_some]
  by_cases z1:aY x p.1=0
  ·rw[zT z1]
   simp only[Bool.not_true,zD]
   rw[te y p.2.1 h2,Option.bind_some]
   by_cases z2:aY y p.2.1=0
   ·rw[zT z2]
    simp only[Bool.not_true,zD]
    exact zzz x y r (i+1) fun q hq=>h q (List.mem_cons_of_mem _ hq)
   ·rw[zF z2]
    simp only[Bool.not_false,zC,vC,if_neg z2]
  ·rw[zF z1]
   simp only[Bool.not_false,zC,vC,if_neg z1]
theorem ac1(l:List bK)(x y:Spec)(h:ej l):lB l x y=some (Sp l x y):=by
 have hl:=h.len
 unfold lB OW Sp
 dsimp only
 rw[Ve l (by rw[zj];omega),Option.bind_some]
 cases(!decide ((Ma l).1=0)) with
 |true=>rfl
 |false=>
  cases decide ((l.length:Int)=0) with
  |true=>rfl
  |false=>
   simp only[zD,Bool.or_false]
   have:=cm ju l (by rw[zj];omega) (fun i (p:bK) (s:Unit) K=>((bB x p.1).bind fun r2=>(bif(!decide (r2=0)) then some (Sum.inl r2) else((bB y p.2.1).bind fun r3=>(bif(!decide (r3=0)) then some (Sum.inl r3) else K s))))) (fun _=>some (Sum.inr ()))
    (fun k i s=>K6 k l (l.length:Int) i x y) (fun k i s=>rfl) ()
   rw[this,zzz x y l 0 h.sz,Option.bind_some]
   unfold vC
   by_cases z:jy l x y=0
   ·rw[if_pos z,z];rfl
   ·rw[if_neg z];rfl
theorem VI(r:aS)(a b:zf)(h:gP r)(ha:a.2.2.1.length<=maxLen)(hb:b.2.2.1.length<=maxLen):mQ r a b=some (dF r a b):=by
 unfold mQ OS dF kh me
 rw[ae4 r a b ha hb]
 simp only[Option.bind_some,Yo,te _ _ h.text,Zo,ac1 _ _ _ h.iq]
 generalize eH r a b=e
 generalize decide (r.1<1)=c1
 generalize decide ((5:Int)<r.1)=c2
 generalize decide (r.2.2.2.1=bs [])=t
 generalize decide ((0:Int)<(r.2.2.2.2.1.length:Int))=p
 generalize decide (r.1=1)=k1
 generalize decide (r.1=3)=k3
 generalize decide (r.1=4)=k4
 generalize decide (r.1=5)=k5
 generalize jt (aN a r.2.1)=p1
 generalize jt (aN b r.2.2.1)=p2
 generalize ml (aN b r.2.2.1) (aN a r.2.1)=w
 cases c1<;>cases c2<;>first|rfl|skip
 cases e<;>first|rfl|skip
 cases t<;>cases p<;>cases k3<;>cases k5<;>first|rfl|skip
 all_goals(cases k1<;>cases k4<;>cases p1<;>cases p2<;>cases w<;>rfl)
@[irreducible] def sG (x:ByteArray):Int:=((wK x).map fun r=>Sum.elim (fun(w:ar×Int×Int)=>w.2.1) (fun(w:ar×Int×Int)=>w.2.1) r).getD 0
theorem yl(s:Spec)(x:ByteArray)(hx:x.size<=1099511627776):aY s x=0↔bf s=0/\s.2.2.2.1<=(x.size:Int)/\(x.size:Int)<=s.2.2.2.2.1/\(bl x).all (iL s.2.1)=true/\(s.2.1=6->sG x=0):=by
 have h:=BO s x hx
 unfold lF DI at h
 rw[sM,Option.bind_some,zbx _ _ (by rw[zj];omega),Option.bind_some] at h
 obtain⟨r,hr⟩:=zmo x hx
 have ht:sG x=Sum.elim (fun(w:ar×Int×Int)=>w.2.1) (fun(w:ar×Int×Int)=>w.2.1) r:=by unfold sG;rw[hr];rfl
 rw[hr,Option.bind_some] at h
 by_cases c1:bf s=0
 ·rw[zT c1,Bool.not_true,zD] at h
  by_cases c2:(x.size:Int)<s.2.2.2.1
  ·rw[zT c2,zC] at h
   have:=Option.some.inj h
   exact⟨fun e=>by omega,fun e=>by omega⟩
  rw[zF c2,zD] at h
  by_cases c3:s.2.2.2.2.1<(x.size:Int)
  ·rw[zT c3,zC] at h
   have:=Option.some.inj h
   exact⟨fun e=>by omega,fun e=>by omega⟩
  rw[zF c3,zD] at h
  have hf:=zm6 s.2.1 (bl x) 0 (Int.le_refl _)
  by_cases c4:(0:Int)<=oX s.2.1 (bl x) 0
  ·rw[zT c4,zC] at h
   have:=Option.some.inj h
   exact⟨fun e=>by omega,fun e=>absurd e.2.2.2.1 (hf.1 c4)⟩
  rw[zF c4,zD] at h
  have dX:(bl x).all (iL s.2.1)=true:=by
   cases hq:(bl x).all (iL s.2.1) with
   |true=>rfl
   |false=>exact absurd (hf.2 (by rw[hq];decide)) c4
  by_cases c5:s.2.1=6
  ·rw[zT c5,zC] at h
   have key:(bif(!decide (sG x=0)) then some (13:Int) else some 0)=some (aY s x):=by
    rw[<-h]
    cases r with
    |inl r=>rw[Sum.elim_inl] at ht⊢;rw[<-ht]
    |inr r=>rw[Sum.elim_inr] at ht⊢;rw[<-ht]
   by_cases c6:sG x=0
   ·rw[zT c6] at key
    have:=Option.some.inj key
    exact⟨fun _=>⟨c1,by omega,by omega,dX,fun _=>c6⟩,fun _=>this.symm⟩
   ·rw[zF c6] at key
    have:=Option.some.inj key
    exact⟨fun e=>by omega,fun e=>absurd (e.2.2.2.2 c5) c6⟩
  ·rw[zF c5,zD] at h
   have:=Option.some.inj h
   exact⟨fun _=>⟨c1,by omega,by omega,dX,fun e=>absurd e c5⟩,fun _=>this.symm⟩
 ·rw[zF c1,Bool.not_false,zC] at h
  have:=Option.some.inj h
  exact⟨fun e=>by omega,fun e=>absurd e.1 c1⟩
theorem ada(a b:Spec):ml a b=true↔bf a=0/\bf b=0/\a.2.2.2.1<=b.2.2.2.1/\b.2.2.2.2.1<=a.2.2.2.2.1/\(a.2.1=5\/(a.2.1=6/\b.2.1=6)\/(a.2.1≠5/\a.2.1≠6/\b.2.1≠6/\wj a.2.1 b.2.1=true)):=by
 have h:=zs6 a b
 unfold yR R9 at h
 rw[sM,sM,zc1] at h
 simp only[Option.bind_some] at h
 by_cases c1:bf a=0
 ·rw[zT c1,Bool.not_true,zD] at h
  by_cases c2:bf b=0
  ·rw[zT c2,Bool.not_true,zD] at h
   by_cases c3:b.2.2.2.1<a.2.2.2.1
   ·rw[zT c3,zC] at h
    have:=Option.some.inj h
    exact⟨fun e=>(by rw[e] at this;cases this),fun e=>by omega⟩
   rw[zF c3,zD] at h
   by_cases c4:a.2.2.2.2.1<b.2.2.2.2.1
   ·rw[zT c4,zC] at h
    have:=Option.some.inj h
    exact⟨fun e=>(by rw[e] at this;cases this),fun e=>by omega⟩
   rw[zF c4,zD] at h
   by_cases c5:a.2.1=5
   ·rw[zT c5,zC] at h
    have:=Option.some.inj h
    exact⟨fun _=>⟨c1,c2,by omega,by omega,.inl c5⟩,fun _=>this.symm⟩
   rw[zF c5,zD] at h
   by_cases c6:a.2.1=6
   ·rw[zT c6,zC] at h
    have:=Option.some.inj h
    rw[<-this,decide_eq_true_eq]
    exact⟨fun e=>⟨c1,c2,by omega,by omega,.inr (.inl ⟨c6,by omega⟩)⟩,fun e=>by omega⟩
   rw[zF c6,zD] at h
   by_cases c7:b.2.1=6
   ·rw[zT c7,zC] at h
    have:=Option.some.inj h
    rw[<-this,decide_eq_true_eq]
    exact⟨fun e=>by omega,fun e=>by omega⟩
   rw[zF c7,zD] at h
   have:=Option.some.inj h
   rw[<-this]
   refine⟨fun e=>⟨c1,c2,by omega,by omega,.inr (.inr ⟨c5,c6,c7,e⟩)⟩,fun e=> ?_⟩
   rcases e.2.2.2.2 with e|e|e
   ·exact absurd e c5
   ·exact absurd e.1 c6
   ·exact e.2.2.2
  ·rw[zF c2,Bool.not_false,zC] at h
   have:=Option.some.inj h
   exact⟨fun e=>(by rw[e] at this;cases this),fun e=>absurd e.2.1 c2⟩
 ·rw[zF c1,Bool.not_false,zC] at h
  have:=Option.some.inj h
  exact⟨fun e=>(by rw[e] at this;cases this),fun e=>absurd e.1 c1⟩
theorem zml{s:Spec}(h:bf s=0):(2<=s.1/\s.1<=128)/\(1<=s.2.1/\s.2.1<=6)/\(1<=s.2.2.1/\s.2.2.1<=3)/\(1<=s.2.2.2.1/\s.2.2.2.1<=s.2.2.2.2.1/\s.2.2.2.2.1<=999)/\(s.2.2.1=1->s.2.2.2.1=s.2.2.2.2.1)/\¬(s.2.2.1=1/\s.2.1=6):=by
 unfold bf at h
 split at h
 ·omega
 split at h
 ·omega
 split at h
 ·omega
 split at h
 ·omega
 split at h
 ·omega
 ·omega
theorem afp:∀a b:Fin 7,wj (a.1:Int) (b.1:Int)=true->a.1≠5->a.1≠6->b.1≠6->(a.1=b.1\/(a.1=3/\(b.1=1\/b.1=2))\/(a.1=4/\(b.1=1\/b.1=2\/b.1=3))):=by decide+kernel
theorem ZT{a b:Int}(h:wj a b=true)(h5:a≠5)(h6:a≠6)(h7:b≠6):a=b\/(a=3/\(b=1\/b=2))\/(a=4/\(b=1\/b=2\/b=3)):=by
 have hr:1<=a/\a<=6/\1<=b/\b<=6:=by
  unfold wj at h
  rw[Bool.and_eq_true,decide_eq_true_eq] at h
  exact h.1
 obtain⟨x,rfl⟩:=Sj ⟨hr.1,hr.2.1⟩
 obtain⟨y,rfl⟩:=Sj ⟨hr.2.2.1,hr.2.2.2⟩
 have:=afp x y h (by omega) (by omega) (by omega)
 omega
theorem acw{a b x:Int}(h:a=b\/(a=3/\(b=1\/b=2))\/(a=4/\(b=1\/b=2\/b=3)))(hx:iL b x=true):iL a x=true:=by
 rcases h with rfl|⟨rfl,rfl|rfl⟩|⟨rfl,rfl|rfl|rfl⟩
 ·exact hx
 all_goals
  simp [iL] at hx⊢
  omega
theorem acv(x:Int):iL 5 x=true:=by simp [iL]
theorem W3{y x:Spec}{t:ByteArray}(ht:t.size<=1099511627776)(hw:ml y x=true)(hv:aY x t=0):aY y t=0:=by
 obtain⟨w1,w2,w3,w4,w5⟩:=(ada y x).1 hw
 obtain⟨v1,v2,v3,v4,v5⟩:=(yl x t ht).1 hv
 refine(yl y t ht).2 ⟨w1,by omega,by omega,?_,?_⟩
 ·rcases w5 with e|e|e
  ·rw[e,List.all_eq_true];exact fun b _=>acv b
  ·rw[e.1,<-e.2];exact v4
  ·rw[List.all_eq_true] at v4⊢
   exact fun b hb=>acw (ZT e.2.2.2 e.1 e.2.1 e.2.2.1) (v4 b hb)
 ·intro e6
  rcases w5 with e|e|e
  ·omega
  ·exact v5 e.2
  ·exact absurd e6 e.2.1
theorem afa:iL 1=bS:=by funext b;simp [iL,bS]
theorem I0(l:List Int):l.all (iL 1)=aX l:=by rw[afa];rfl
theorem Ji{t:ByteArray}{w:Int}(h:(eV t w).2=true):1<=w/\w<=999/\(((eV t w).1).size:Int)=w/\aX (bl (eV t w).1)=true:=by
 by_cases hc:1<=t.size/\t.size<=999/\aX (bl t)=true/\1<=w/\w<=999
 ·rw[Kd hc] at h⊢
  by_cases h4:(t.size:Int)<=w
  ·rw[zT h4,zC]
   have hd:aX (List.replicate (w-t.size).toNat 48++bl t)=true:=by
    have e:aX (List.replicate (w-t.size).toNat 48++bl t)=(aX (List.replicate (w-t.size).toNat 48)&&aX (bl t)):=List.all_append ..
    have e2:aX (List.replicate (w-t.size).toNat 48)=true:=by
     rw[aX,List.all_eq_true]
     intro x hx
     rw[(List.mem_replicate.1 hx).2];rfl
    rw[e,e2,hc.2.2.1];rfl
   refine⟨hc.2.2.2.1,hc.2.2.2.2,?_,?_⟩
   ·rw[kZ,List.length_append,List.length_replicate,zh];omega
   ·rw[pW (zoc hd)];exact hd
  ·rw[zF h4,zD] at h⊢
   cases hz:eY ((bl t).take (t.size-w.toNat)) with
   |false=>rw[hz] at h;cases h
   |true=>
    rw[zC]
    have hd:aX ((bl t).drop (t.size-w.toNat))=true:=by
     rw[aX,List.all_eq_true]
     intro x hx
     exact List.all_eq_true.1 hc.2.2.1 x (List.mem_of_mem_drop hx)
    refine⟨hc.2.2.2.1,hc.2.2.2.2,?_,?_⟩
    ·rw[kZ,List.length_drop,zh];omega
    ·rw[pW (zoc hd)];exact hd
 ·rw[DV hc] at h;cases h
theorem WU{s:Spec}(h:jt s=true):s.2.1=1/\s.2.2.1=1:=by
 unfold jt at h
 rw[Bool.and_eq_true,decide_eq_true_eq,decide_eq_true_eq] at h
 exact h
abbrev np:aO:=(0,bs [],())
def fy(r:aS)(b:zf)(t:ByteArray):aO×Int:=
 bif decide (r.1=1) then((r.2.2.1,t,()),0) else bif decide (r.1=2) then(np,0) else bif decide (r.1=3) then((r.2.2.1,r.2.2.2.1,()),0)
 else bif decide (r.1=4) then(bif !bp b r.2.2.1 then(np,9) else bif !(eV t (aN b r.2.2.1).2.2.2.1).2 then(np,5) else((r.2.2.1,(eV t (aN b r.2.2.1).2.2.2.1).1,()),0))
 else bif decide (r.1=5) then(bif !(zx r.2.2.2.2.1 t).2 then(np,15) else((r.2.2.1,(zx r.2.2.2.2.1 t).1,()),0)) else(np,1)
theorem VH(r:aS)(b:zf)(t:ByteArray)(hp:r.2.2.2.2.1.length<=maxLen)(hb:b.2.2.1.length<=maxLen)(ht:t.size<=maxLen):mP r b t=some (fy r b t):=by
 unfold mP OR fy
 rw[vG b _ hb,Option.bind_some,afr t _ ht,Option.bind_some,Vd _ _ hp,Option.bind_some]
 generalize decide (r.1=1)=k1
 generalize decide (r.1=2)=k2
 generalize decide (r.1=3)=k3
 generalize decide (r.1=4)=k4
 generalize decide (r.1=5)=k5
 generalize bp b r.2.2.1=h
 generalize eV t (aN b r.2.2.1).2.2.2.1=p
 generalize zx r.2.2.2.2.1 t=q
 obtain⟨p1,p2⟩:=p
 obtain⟨q1,q2⟩:=q
 cases k1<;>cases k2<;>cases k3<;>cases k4<;>cases k5<;>cases h<;>cases p2<;>cases q2<;>rfl
theorem Nr{s:zf}{no:Int}(h:bp s no=true):aN s no∈s.2.2.1/\(aN s no).1=no:=by
 unfold bp at h
 unfold aN
 cases hf:fg s.2.2.1 no with
 |none=>rw[hf] at h;cases h
 |some x=>
  unfold fg at hf
  exact⟨List.mem_of_find?_eq_some hf,by simpa using List.find?_some hf⟩
theorem Nf{s:zf}(h:gh s){no:Int}(hh:bp s no=true):bf (aN s no)=0:=h.2.2.2.1 _ (Nr hh).1
theorem zc4{l:List bK}{t:ByteArray}(h:(zx l t).2=true):∃p∈l,p.1=t/\(zx l t).1=p.2.1:=by
 unfold zx at h⊢
 cases hf:l.find? fun p=>decide (p.1=t) with
 |none=>rw[hf] at h;cases h
 |some p=>exact⟨p,List.mem_of_find?_eq_some hf,by simpa using List.find?_some hf,rfl⟩
theorem Hl:∀{l:List bK} {x y:Spec},jy l x y=0->∀p∈l,aY x p.1=0/\aY y p.2.1=0
 | [],x,y,h,p,hp=>by cases hp
 |q::l,x,y,h,p,hp=>by
  unfold jy at h
  by_cases h1:aY x q.1=0
  ·rw[zT h1,Bool.not_true,zD] at h
   by_cases h2:aY y q.2.1=0
   ·rw[zT h2,Bool.not_true,zD] at h
    rcases List.mem_cons.1 hp with rfl|hp
    ·exact⟨h1,h2⟩
    ·exact Hl h p hp
   ·rw[zF h2,Bool.not_false,zC] at h;exact absurd h h2
  ·rw[zF h1,Bool.not_false,zC] at h;exact absurd h h1
theorem M6{r:aS}{a b:zf}(h:dF r a b=0):(1<=r.1/\r.1<=5)/\eH r a b=false/\me r=false/\kh r (aN a r.2.1) (aN b r.2.2.1)=0:=by
 unfold dF at h
 by_cases c1:r.1<1
 ·rw[zT c1] at h;cases h
 by_cases c2:5<r.1
 ·rw[zT c2,Bool.or_true] at h;cases h
 rw[zF c1,zF c2,Bool.or_false,zD] at h
 cases he:eH r a b with
 |true=>rw[he] at h;cases h
 |false=>
  rw[he,zD] at h
  cases ht:me r with
  |true=>rw[ht] at h;cases h
  |false=>rw[ht,zD] at h;exact⟨by omega,rfl,rfl,h⟩
theorem zgl{r:aS}{a b:zf}(h:eH r a b=false):(r.1=3->r.2.1=0)/\(r.1≠3->bp a r.2.1=true)/\(r.1=2->r.2.2.1=0)/\(r.1≠2->bp b r.2.2.1=true):=by
 unfold eH at h
 rw[Bool.or_eq_false_iff] at h
 obtain⟨h1,h2⟩:=h
 refine⟨fun e=> ?_,fun e=> ?_,fun e=> ?_,fun e=> ?_⟩
 ·rw[zT e,zC] at h1;simpa using h1
 ·rw[zF e,zD] at h1;simpa using h1
 ·rw[zT e,zC] at h2;simpa using h2
 ·rw[zF e,zD] at h2;simpa using h2
theorem V2{r:aS}{a b:zf}{t:ByteArray}(ht:t.size<=1099511627776)(hr:gP r)(hc:dF r a b=0)(hb:gh b)(hv:bp a r.2.1=true->aY (aN a r.2.1) t=0):
 ((fy r b t).2≠0->((r.1=4/\(fy r b t).2=5)\/(r.1=5/\(fy r b t).2=15))/\(fy r b t).1=np)/\
 ((fy r b t).2=0->(r.1=2->(fy r b t).1=np)/\(r.1≠2->(fy r b t).1.1=r.2.2.1/\bp b r.2.2.1=true/\aY (aN b r.2.2.1) (fy r b t).1.2.1=0)):=by
 obtain⟨c1,c2,c3,c4⟩:=M6 hc
 obtain⟨e1,e2,e3,e4⟩:=zgl c2
 unfold kh at c4
 have hk:r.1=1\/r.1=2\/r.1=3\/r.1=4\/r.1=5:=by omega
 unfold fy
 rcases hk with k|k|k|k|k
 ·rw[zT k,zC] at c4⊢
  refine⟨fun h=>absurd rfl h,fun _=>⟨fun e=>by omega,fun _=>⟨rfl,e4 (by omega),?_⟩⟩⟩
  cases hw:ml (aN b r.2.2.1) (aN a r.2.1) with
  |false=>rw[hw] at c4;cases c4
  |true=>exact W3 ht hw (hv (e2 (by omega)))
 ·rw[zF (by omega:¬r.1=1),zT k,zD,zC]
  exact⟨fun h=>absurd rfl h,fun _=>⟨fun _=>rfl,fun e=>absurd k e⟩⟩
 ·rw[zF (by omega:¬r.1=1),zT k,zD,zC] at c4
  rw[zF (by omega:¬r.1=1),zF (by omega:¬r.1=2),zT k,zD,zD,zC]
  exact⟨fun h=>absurd rfl h,fun _=>⟨fun e=>by omega,fun _=>⟨rfl,e4 (by omega),c4⟩⟩⟩
 ·rw[zF (by omega:¬r.1=1),zF (by omega:¬r.1=3),zT k,zD,zD,zC] at c4
  rw[zF (by omega:¬r.1=1),zF (by omega:¬r.1=2),zF (by omega:¬r.1=3),zT k,zD,zD,zD,zC,e4 (by omega),Bool.not_true,zD]
  have hy:=Nf hb (e4 (by omega))
  have hpd:jt (aN b r.2.2.1)=true:=by
   cases hp:(jt (aN a r.2.1)&&jt (aN b r.2.2.1)) with
   |false=>rw[hp] at c4;cases c4
   |true=>exact(Bool.and_eq_true_iff.1 hp).2
  obtain⟨y1,y2⟩:=WU hpd
  obtain⟨_,_,_,f4,f5,_⟩:=zml hy
  cases hp:(eV t (aN b r.2.2.1).2.2.2.1).2 with
  |false=>exact⟨fun _=>⟨.inl ⟨k,rfl⟩,rfl⟩,fun e=>by cases e⟩
  |true=>
   obtain⟨p1,p2,p3,p4⟩:=Ji hp
   rw[Bool.not_true,zD]
   refine⟨fun h=>absurd rfl h,fun _=>⟨fun e=>by omega,fun _=>⟨rfl,rfl,?_⟩⟩⟩
   have:=f5 y2
   refine(yl _ _ (by show(eV t (aN b r.2.2.1).2.2.2.1).1.size<=1099511627776;omega)).2 ⟨hy,?_,?_,?_,fun e=>by omega⟩
   ·show _<=((eV t (aN b r.2.2.1).2.2.2.1).1.size:Int);omega
   ·show((eV t (aN b r.2.2.1).2.2.2.1).1.size:Int)<=_;omega
   ·rw[y1,I0];exact p4
 ·rw[zF (by omega:¬r.1=1),zF (by omega:¬r.1=3),zF (by omega:¬r.1=4),zT k,zD,zD,zD,zC] at c4
  rw[zF (by omega:¬r.1=1),zF (by omega:¬r.1=2),zF (by omega:¬r.1=3),zF (by omega:¬r.1=4),zT k,zD,zD,zD,zD,zC]
  unfold Sp at c4
  cases hp:(zx r.2.2.2.2.1 t).2 with
  |false=>exact⟨fun _=>⟨.inr ⟨k,rfl⟩,rfl⟩,fun e=>by cases e⟩
  |true=>
   rw[Bool.not_true,zD]
   refine⟨fun h=>absurd rfl h,fun _=>⟨fun e=>by omega,fun _=>⟨rfl,e4 (by omega),?_⟩⟩⟩
   obtain⟨p,hm,_,hq⟩:=zc4 hp
   show aY _ (zx r.2.2.2.2.1 t).1=0
   rw[hq]
   cases hz:(!decide ((Ma r.2.2.2.2.1).1=0)||decide ((r.2.2.2.2.1.length:Int)=0)) with
   |true=>rw[hz] at c4;cases c4
   |false=>rw[hz,zD] at c4;exact(Hl c4 p hm).2
end bu

set_option profiler true
set_option profiler.threshold 2000
namespace bu
open Go.IntKind renaming wrap->zW,i64->zI,u8->zU
open Go Go.Ref
def bG(style c:Int):Int:=if style=2/\c=1 then 1 else if style=1/\(c=5\/c=6) then 2 else 0
def fH(h:Int)(n:Nat):Nat:=if h=1 then(n+1)/2 else if h=2 then 2*n else n
def jb(h:Int)(t:ByteArray)(n:Int):Sum Int ByteArray:=if h=1 then(if(gO t n).2.1=0 then .inr (gO t n).1 else .inl (gO t n).2.1) else if h=2 then(if(jI t).2.2=true then .inr (jI t).1 else .inl 3) else .inr t
def iZ(s:Spec)(z:Int):Sum Int ByteArray->ByteArray×Int×Int
 | .inl e=>(bs [],0,e)
 | .inr t=>if aY s t=0 then(t,z,0) else(bs [],0,aY s t)
def oV(h:Int)(s:Spec)(b:ByteArray)(n a:Nat):ByteArray×Int×Int:=
 if b.size<a+fH h n then(bs [],0,2) else iZ s ((a+fH h n:Nat):Int) (jb h (b.extract a (a+fH h n)) n)
def L1(style:Int)(s:Spec)(b:ByteArray)(at_:Int):Sum Int (Nat×Nat):=
 if s.2.2.1=1 then .inr (s.2.2.2.1.toNat,at_.toNat) else if¬(gL style s.2.2.1 b at_).2.2=0 then .inl (gL style s.2.2.1 b at_).2.2 else
  if(gL style s.2.2.1 b at_).1<s.2.2.2.1\/s.2.2.2.2.1<(gL style s.2.2.1 b at_).1 then .inl 5 else .inr ((gL style s.2.2.1 b at_).1.toNat,(gL style s.2.2.1 b at_).2.1.toNat)
def rB(h:Int)(s:Spec)(b:ByteArray):Sum Int (Nat×Nat)->ByteArray×Int×Int
 | .inl e=>(bs [],0,e)
 | .inr q=>oV h s b q.1 q.2
def kr(style:Int)(s:Spec)(b:ByteArray)(at_:Int):ByteArray×Int×Int:=
 if(style=1\/style=2)/\bf s=0/\0<=at_/\at_<=b.size then rB (bG style s.2.1) s b (L1 style s b at_) else(bs [],0,1)
theorem Si(style c:Int):jX style c=some (bG style c):=by
 unfold jX Qp bG
 by_cases h1:style=1<;>by_cases h2:style=2<;>by_cases h3:c=1<;>by_cases h4:c=5<;>by_cases h5:c=6<;>(try(exfalso;omega))<;>simp [h1,h2,h3,h4,h5]
theorem DU(style c:Int):bG style c=0\/bG style c=1\/bG style c=2:=by
 unfold bG
 split
 ·exact .inr (.inl rfl)
 ·split
  ·exact .inr (.inr rfl)
  ·exact .inl rfl
theorem yt{s:Spec}(h:bf s=0):1<=s.2.1/\s.2.1<=6/\1<=s.2.2.1/\s.2.2.1<=3/\1<=s.2.2.2.1/\s.2.2.2.1<=s.2.2.2.2.1/\s.2.2.2.2.1<=999/\(s.2.2.1=2->s.2.2.2.2.1<=99)/\(s.2.2.1=1->s.2.2.2.1=s.2.2.2.2.1):=by
 unfold bf at h
 split at h
 ·cases h
 split at h
 ·cases h
 split at h
 ·cases h
 split at h
 ·cases h
 refine⟨by omega,by omega,by omega,by omega,by omega,by omega,by omega,fun e=>by omega,fun e=>by omega⟩
theorem HY:∀l:List Int,(dB l).length<=l.length
 | []=>by simp [dB]
 | [a]=>by simp [dB]
 |a::b::r=>by rw[dB,List.length_cons,List.length_cons,List.length_cons];have:=HY r;omega
theorem zma(s:ByteArray):(jI s).1.size<=s.size:=by
 unfold jI
 split
 ·exact Nat.zero_le _
 ·split
  ·exact Nat.zero_le _
  ·rw[kZ,<-zh];exact HY _
theorem zzs{style form:Int}{b:ByteArray}{at_:Int}(h:(gL style form b at_).2.2=0):0<=(gL style form b at_).2.1/\(gL style form b at_).2.1<=b.size:=by
 unfold gL at h⊢
 cases hk:(dd style form&&decide (0<=at_/\at_<=(b.size:Int))) with
 |false=>rw[hk] at h;cases h
 |true=>
  rw[hk] at h
  simp only[zC] at h⊢
  split
  ·exact⟨Int.le_refl _,Int.natCast_nonneg _⟩
  ·rename_i hs
   split
   ·dsimp only;exact⟨by omega,by omega⟩
   ·exact⟨Int.le_refl _,Int.natCast_nonneg _⟩
def iY(dH:Int)(jU:Spec)(lh:ByteArray)(n a:Int):Option iA:=
 let K:ByteArray->Int->Int->Option iA:=fun a0 a1 a2=>some (a0,a1,a2)
 ((jX dH jU.2.1).bind fun r4=>(bif(decide (r4=(1:Int))) then((Q2 n).bind fun r5=>(bif(decide ((zW zI (((lh).size:Int)-a))<r5)) then(K (bs []) (0:Int) (2:Int)) else(bif(decide ((0:Int)<=(zW zI (a+r5)))) then(bif(decide ((zW zI (a+r5))<=(((lh).size:Nat):Int))) then(bif(decide ((0:Int)<=a)) then(bif(decide (a<=((((zW zI (a+r5))).toNat:Nat):Int))) then((jX dH jU.2.1).bind fun r6=>(bif(decide (r6=(1:Int))) then((Q0 ((lh).extract (a).toNat ((zW zI (a+r5))).toNat) n).bind fun r7=>(bif(!(decide (r7.2.1=(0:Int)))) then(K (bs []) (0:Int) r7.2.1) else((bB jU r7.1).bind fun r8=>(bif(!(decide (r8=(0:Int)))) then(K (bs []) (0:Int) r8) else(K r7.1 (zW zI (a+r5)) (0:Int)))))) else(bif(decide (r6=(2:Int))) then((fP ((lh).extract (a).toNat ((zW zI (a+r5))).toNat)).bind fun r9=>(bif(!r9.2.2) then(K (bs []) (0:Int) (3:Int)) else((bB jU r9.1).bind fun jF=>(bif(!(decide (jF=(0:Int)))) then(K (bs []) (0:Int) jF) else(K r9.1 (zW zI (a+r5)) (0:Int)))))) else((bB jU ((lh).extract (a).toNat ((zW zI (a+r5))).toNat)).bind fun jv=>(bif(!(decide (jv=(0:Int)))) then(K (bs []) (0:Int) jv) else(K ((lh).extract (a).toNat ((zW zI (a+r5))).toNat) (zW zI (a+r5)) (0:Int))))))) else none) else none) else none) else none))) else(bif(decide (r4=(2:Int))) then(bif(decide ((zW zI (((lh).size:Int)-a))<(zW zI ((2:Int)*n)))) then(K (bs []) (0:Int) (2:Int)) else(bif(decide ((0:Int)<=(zW zI (a+(zW zI ((2:Int)*n)))))) then(bif(decide ((zW zI (a+(zW zI ((2:Int)*n))))<=(((lh).size:Nat):Int))) then(bif(decide ((0:Int)<=a)) then(bif(decide (a<=((((zW zI (a+(zW zI ((2:Int)*n))))).toNat:Nat):Int))) then((jX dH jU.2.1).bind fun kR=>(bif(decide (kR=(1:Int))) then((Q0 ((lh).extract (a).toNat ((zW zI (a+(zW zI ((2:Int)*n))))).toNat) n).bind fun jw=>(bif(!(decide (jw.2.1=(0:Int)))) then(K (bs []) (0:Int) jw.2.1) else((bB jU jw.1).bind fun s9=>(bif(!(decide (s9=(0:Int)))) then(K (bs []) (0:Int) s9) else(K jw.1 (zW zI (a+(zW zI ((2:Int)*n)))) (0:Int)))))) else(bif(decide (kR=(2:Int))) then((fP ((lh).extract (a).toNat ((zW zI (a+(zW zI ((2:Int)*n))))).toNat)).bind fun vq=>(bif(!vq.2.2) then(K (bs []) (0:Int) (3:Int)) else((bB jU vq.1).bind fun Ay=>(bif(!(decide (Ay=(0:Int)))) then(K (bs []) (0:Int) Ay) else(K vq.1 (zW zI (a+(zW zI ((2:Int)*n)))) (0:Int)))))) else((bB jU ((lh).extract (a).toNat ((zW zI (a+(zW zI ((2:Int)*n))))).toNat)).bind fun Az=>(bif(!(decide (Az=(0:Int)))) then(K (bs []) (0:Int) Az) else(K ((lh).extract (a).toNat ((zW zI (a+(zW zI ((2:Int)*n))))).toNat) (zW zI (a+(zW zI ((2:Int)*n)))) (0:Int))))))) else none) else none) else none) else none)) else(bif(decide ((zW zI (((lh).size:Int)-a))<n)) then(K (bs []) (0:Int) (2:Int)) else(bif(decide ((0:Int)<=(zW zI (a+n)))) then(bif(decide ((zW zI (a+n))<=(((lh).size:Nat):Int))) then(bif(decide ((0:Int)<=a)) then(bif(decide (a<=((((zW zI (a+n))).toNat:Nat):Int))) then((jX dH jU.2.1).bind fun AA=>(bif(decide (AA=(1:Int))) then((Q0 ((lh).extract (a).toNat ((zW zI (a+n))).toNat) n).bind fun sB=>(bif(!(decide (sB.2.1=(0:Int)))) then(K (bs []) (0:Int) sB.2.1) else((bB jU sB.1).bind fun AB=>(bif(!(decide (AB=(0:Int)))) then(K (bs []) (0:Int) AB) else(K sB.1 (zW zI (a+n)) (0:Int)))))) else(bif(decide (AA=(2:Int))) then((fP ((lh).extract (a).toNat ((zW zI (a+n))).toNat)).bind fun vr=>(bif(!vr.2.2) then(K (bs []) (0:Int) (3:Int)) else((bB jU vr.1).bind fun G0=>(bif(!(decide (G0=(0:Int)))) then(K (bs []) (0:Int) G0) else(K vr.1 (zW zI (a+n)) (0:Int)))))) else((bB jU ((lh).extract (a).toNat ((zW zI (a+n))).toNat)).bind fun G1=>(bif(!(decide (G1=(0:Int)))) then(K (bs []) (0:Int) G1) else(K ((lh).extract (a).toNat ((zW zI (a+n))).toNat) (zW zI (a+n)) (0:Int))))))) else none) else none) else none) else none)))))
theorem aeU(style:Int)(s:Spec)(b:ByteArray)(n a:Nat)(hb:b.size<=1099511627776)(hn:n<=999)(ha:a<=b.size)(hh:bG style s.2.1=0):iY style s b n a=some (oV (bG style s.2.1) s b n a):=by
 unfold iY
 simp only[Si,zc]
 have w0:zW zI ((b.size:Int)-(a:Int))=(b.size:Int)-a:=zg (by omega) (by omega)
 have w1:∀z:Nat,z<=2000->zW zI ((a:Int)+(z:Int))=((a+z:Nat):Int):=fun z hz=>by rw[zg (by omega) (by omega)];omega
 have hx:∀z:Nat,((a+z:Nat):Int).toNat=a+z:=fun z=>Int.toNat_natCast _
 have rJ:∀z:Nat,(b.extract a (a+z)).size<=1099511627776:=fun z=>by rw[ByteArray.size_extract];omega
 rw[hh]
 simp only[Int.reduceEq,decide_true,decide_false,zC,zD,w0,w1 n (by omega),hx,Int.toNat_natCast]
 unfold oV fH jb
 simp only[show¬((0:Int)=1) from by decide,show¬((0:Int)=2) from by decide,if_false]
 split
 ·rename_i hc
  rw[zT (by omega),zC]
 ·rename_i hc
  rw[zF (by omega),zD,zT (by omega),zC,zT (by omega),zC,zT (by omega),zC,zT (by omega),zC,te _ _ (rJ n),zc]
  unfold iZ
  by_cases hv:aY s (b.extract a (a+n))=0
  ·simp only[hv,decide_true,Bool.not_true,zD,if_true]
  ·simp only[hv,decide_false,Bool.not_false,zC,if_false]
theorem aeV(style:Int)(s:Spec)(b:ByteArray)(n a:Nat)(hb:b.size<=1099511627776)(hn:n<=999)(ha:a<=b.size)(hh:bG style s.2.1=1):iY style s b n a=some (oV (bG style s.2.1) s b n a):=by
 unfold iY
 simp only[Si,zc]
 have w0:zW zI ((b.size:Int)-(a:Int))=(b.size:Int)-a:=zg (by omega) (by omega)
 have w1:∀z:Nat,z<=2000->zW zI ((a:Int)+(z:Int))=((a+z:Nat):Int):=fun z hz=>by rw[zg (by omega) (by omega)];omega
 have hx:∀z:Nat,((a+z:Nat):Int).toNat=a+z:=fun z=>Int.toNat_natCast _
 have rJ:∀z:Nat,(b.extract a (a+z)).size<=1099511627776:=fun z=>by rw[ByteArray.size_extract];omega
 rw[hh]
 have ez:((n:Int)+1)/2=(((n+1)/2:Nat):Int):=by omega
 simp only[Int.reduceEq,decide_true,decide_false,zC,zD,Ku (n:Int) (by omega) (by omega),zc,ez]
 simp only[w0,w1 ((n+1)/2) (by omega),hx,Int.toNat_natCast,Int.reduceEq,decide_true,decide_false,zC,zD]
 unfold oV fH jb
 simp only[if_true]
 split
 ·rename_i hc
  rw[zT (by omega),zC]
 ·rename_i hc
  rw[zF (by omega),zD,zT (by omega),zC,zT (by omega),zC,zT (by omega),zC,zT (by omega),zC,zg0 _ _ (rJ _),zc]
  generalize hg:gO (b.extract a (a+(n+1)/2)) (n:Int)=g
  obtain⟨t,e,i⟩:=g
  have gB:=Ko hg
  dsimp only
  by_cases he:e=0
  ·rw[zT he,Bool.not_true,zD,if_pos he,te _ _ (by omega),zc]
   unfold iZ
   by_cases hv:aY s t=0
   ·simp only[hv,decide_true,Bool.not_true,zD,if_true]
   ·simp only[hv,decide_false,Bool.not_false,zC,if_false]
  ·rw[zF he,Bool.not_false,zC,if_neg he];rfl
theorem aeW(style:Int)(s:Spec)(b:ByteArray)(n a:Nat)(hb:b.size<=1099511627776)(hn:n<=999)(ha:a<=b.size)(hh:bG style s.2.1=2):iY style s b n a=some (oV (bG style s.2.1) s b n a):=by
 unfold iY
 simp only[Si,zc]
 have w0:zW zI ((b.size:Int)-(a:Int))=(b.size:Int)-a:=zg (by omega) (by omega)
 have w1:∀z:Nat,z<=2000->zW zI ((a:Int)+(z:Int))=((a+z:Nat):Int):=fun z hz=>by rw[zg (by omega) (by omega)];omega
 have hx:∀z:Nat,((a+z:Nat):Int).toNat=a+z:=fun z=>Int.toNat_natCast _
 have rJ:∀z:Nat,(b.extract a (a+z)).size<=1099511627776:=fun z=>by rw[ByteArray.size_extract];omega
 rw[hh]
 have ez:zW zI ((2:Int)*(n:Int))=((2*n:Nat):Int):=by rw[zg (by omega) (by omega)];omega
 simp only[Int.reduceEq,decide_true,decide_false,zD,zC]
 rw[ez]
 simp only[w0,w1 (2*n) (by omega),hx,Int.toNat_natCast,Int.reduceEq,decide_true,decide_false,zC,zD]
 unfold oV fH jb
 simp only[show¬((2:Int)=1) from by decide,if_false,if_true]
 split
 ·rename_i hc
  rw[zT (by omega),zC]
 ·rename_i hc
  rw[zF (by omega),zD,zT (by omega),zC,zT (by omega),zC,zT (by omega),zC,zT (by omega),zC,zsu _ (rJ _),zc]
  have gB:=zma (b.extract a (a+2*n))
  have h3:=rJ (2*n)
  generalize jI (b.extract a (a+2*n))=g at gB
  obtain⟨t,i,ok⟩:=g
  dsimp only at gB⊢
  cases ok with
  |true=>
   rw[Bool.not_true,zD,if_pos rfl,te _ _ (by omega),zc]
   unfold iZ
   by_cases hv:aY s t=0
   ·simp only[hv,decide_true,Bool.not_true,zD,if_true]
   ·simp only[hv,decide_false,Bool.not_false,zC,if_false]
  |false=>rw[Bool.not_false,zC,if_neg (by decide)];rfl
theorem HG(style:Int)(s:Spec)(b:ByteArray)(n a:Nat)(hb:b.size<=1099511627776)(hn:n<=999)(ha:a<=b.size):iY style s b n a=some (oV (bG style s.2.1) s b n a):=by
 rcases DU style s.2.1 with hh|hh|hh
 ·exact aeU style s b n a hb hn ha hh
 ·exact aeV style s b n a hb hn ha hh
 ·exact aeW style s b n a hb hn ha hh
theorem Wr(style:Int)(s:Spec)(b:ByteArray)(at_:Int)(hb:b.size<=1099511627776):D1 style s b at_=some (kr style s b at_):=by
 have hk:yJ style=some (decide (style=1\/style=2)):=by
  unfold yJ Lu
  by_cases h1:style=1
  ·rw[zT (p:=style=1\/style=2) (.inl h1),zT h1];rfl
  ·rw[zF h1,zD]
   by_cases h2:style=2
   ·rw[zT (p:=style=1\/style=2) (.inr h2),zT h2]
   ·rw[zF (p:=style=1\/style=2) (fun h=>h.elim h1 h2),zF h2]
 unfold D1 Ql kr
 rw[hk,zc]
 by_cases h1:style=1\/style=2
 case neg=>rw[zF h1,if_neg (fun h=>h1 h.1)];rfl
 rw[zT h1,Bool.not_true,zD,Kn,zc]
 by_cases h2:bf s=0
 case neg=>rw[zF h2,if_neg (fun h=>h2 h.2.1)];rfl
 rw[zT h2,Bool.not_true,zD]
 by_cases h3:at_<0
 ·rw[zT h3,if_neg (fun h=>by omega)];rfl
 rw[zF h3,zD]
 by_cases h4:(b.size:Int)<at_
 ·rw[zT h4,if_neg (fun h=>by omega)];rfl
 rw[zF h4,zD,if_pos ⟨h1,h2,by omega,by omega⟩]
 obtain⟨k1,k2,k3,k4,k5,k6,k7,k8,k9⟩:=yt h2
 obtain⟨m,rfl⟩:∃m:Nat,at_=m:=⟨at_.toNat,by omega⟩
 unfold L1
 by_cases h5:s.2.2.1=1
 ·rw[zT h5,Bool.not_true,zD,if_pos h5]
  have:=HG style s b s.2.2.2.1.toNat m hb (by omega) (by omega)
  rw[Int.toNat_of_nonneg (by omega)] at this
  exact this
 ·rw[zF h5,Bool.not_false,zC,if_neg h5,Zr _ _ _ _ hb,zc]
  by_cases h6:(gL style s.2.2.1 b m).2.2=0
  case neg=>rw[zF h6,if_pos h6];rfl
  rw[zT h6,Bool.not_true,zD,if_neg (fun h=>h h6)]
  have hp:=zzs h6
  by_cases h7:(gL style s.2.2.1 b m).1<s.2.2.2.1
  ·rw[zT h7,if_pos (.inl h7)];rfl
  rw[zF h7,zD]
  by_cases h8:s.2.2.2.2.1<(gL style s.2.2.1 b m).1
  ·rw[zT h8,if_pos (.inr h8)];rfl
  rw[zF h8,zD,if_neg (fun h=>h.elim h7 h8)]
  have:=HG style s b (gL style s.2.2.1 b m).1.toNat (gL style s.2.2.1 b m).2.1.toNat hb (by omega) (by omega)
  rw[Int.toNat_of_nonneg (by omega),Int.toNat_of_nonneg (by omega)] at this
  exact this
theorem xI{style c:Int}(h:bG style c=1):style=2/\c=1:=by
 unfold bG at h
 split at h
 ·assumption
 ·split at h<;>cases h
theorem Gw{style c:Int}(h:bG style c=2):style=1/\(c=5\/c=6):=by
 unfold bG at h
 split at h
 ·cases h
 ·split at h
  ·assumption
  ·cases h
theorem Gv{style c:Int}(h:bG style c=0)(hs:style=1\/style=2)(hc:c<=6):(style=1/\¬5<=c)\/(style=2/\¬c=1):=by
 unfold bG at h
 split at h
 ·cases h
 ·split at h
  ·cases h
  ·omega
theorem xS(style:Int)(s:Spec)(b:ByteArray)(n a:Nat)(hb:b.size<=1099511627776)(hn:n<=999)(ha:a<=b.size)(hs:style=1\/style=2)(hc:s.2.1<=6):sT style b a n s=some (oV (bG style s.2.1) s b n a):=by
 have w0:zW zI ((b.size:Int)-(a:Int))=(b.size:Int)-a:=zg (by omega) (by omega)
 have w1:∀z:Nat,z<=2000->zW zI ((a:Int)+(z:Int))=((a+z:Nat):Int):=fun z hz=>by rw[zg (by omega) (by omega)];omega
 have hx:∀z:Nat,((a+z:Nat):Int).toNat=a+z:=fun z=>Int.toNat_natCast _
 have rJ:∀z:Nat,(b.extract a (a+z)).size<=1099511627776:=fun z=>by rw[ByteArray.size_extract];omega
 have ez:zW zI ((n:Int)+(n:Int))=((2*n:Nat):Int):=by rw[zg (by omega) (by omega)];omega
 have e1:zW zI ((n:Int)+1)=((n+1:Nat):Int):=by rw[zg (by omega) (by omega)];omega
 have e2:Int.tdiv ((n+1:Nat):Int) 2=(((n+1)/2:Nat):Int):=rfl
 have e3:zW zI (((n+1)/2:Nat):Int)=(((n+1)/2:Nat):Int):=zg (by omega) (by omega)
 unfold oV fH jb
 rcases DU style s.2.1 with hh|hh|hh
 ·have key:sT style b a n s=bif decide ((b.size:Int)-a<(n:Int)) then some (bs [],0,2) else bif decide ((0:Int)<=((a+n:Nat):Int)) then bif decide (((a+n:Nat):Int)<=(b.size:Int)) then bif decide ((0:Int)<=(a:Int)) then bif decide ((a:Int)<=((a+n:Nat):Int)) then(lF s (b.extract a (a+n))).bind fun r6=>bif !(decide (r6=(0:Int))) then some (bs [],0,r6) else some (b.extract a (a+n),((a+n:Nat):Int),0) else none else none else none else none:=by
   rcases Gv hh hs hc with⟨h1,h2⟩|⟨h1,h2⟩
   ·subst h1
    simp only[sT,DJ,DK,DL,DM,Dp,Dq,Dr,B7,Ds,Dt,B8,Du,vV,vW,vX,vY,B9,vO,Ca,Cb,vP,Cc,Cd,Ce,Cf,Int.reduceEq,decide_true,decide_false,zC,zD,h2,w0,w1 n (by omega),hx,Int.toNat_natCast]
   ·subst h1
    simp only[sT,DJ,DK,DL,DM,Dp,Dq,Dr,B7,Ds,Dt,B8,Du,vV,vW,vX,vY,B9,vO,Ca,Cb,vP,Cc,Cd,Ce,Cf,Int.reduceEq,decide_true,decide_false,zC,zD,h2,w0,w1 n (by omega),hx,Int.toNat_natCast]
  rw[key,hh]
  simp only[Int.reduceEq,if_false]
  split
  ·rename_i hc
   rw[zT (by omega),zC]
  ·rename_i hc
   rw[zF (by omega),zD,zT (by omega),zC,zT (by omega),zC,zT (by omega),zC,zT (by omega),zC,BO _ _ (rJ n),zc]
   unfold iZ
   by_cases hv:aY s (b.extract a (a+n))=0
   ·simp only[hv,decide_true,Bool.not_true,zD,if_true]
   ·simp only[hv,decide_false,Bool.not_false,zC,if_false]
 ·have key:sT style b a n s=bif decide ((b.size:Int)-a<(((n+1)/2:Nat):Int)) then some (bs [],0,2) else bif decide ((0:Int)<=((a+(n+1)/2:Nat):Int)) then bif decide (((a+(n+1)/2:Nat):Int)<=(b.size:Int)) then bif decide ((0:Int)<=(a:Int)) then bif decide ((a:Int)<=((a+(n+1)/2:Nat):Int)) then(qb (b.extract a (a+(n+1)/2)) n).bind fun r4=>bif !(decide (r4.2.1=(0:Int))) then some (bs [],0,r4.2.1) else(lF s r4.1).bind fun r6=>bif !(decide (r6=(0:Int))) then some (bs [],0,r6) else some (r4.1,((a+(n+1)/2:Nat):Int),0) else none else none else none else none:=by
   obtain⟨h1,h2⟩:=xI hh
   subst h1
   simp only[sT,DJ,DK,DL,DM,Dp,Dq,Dr,B7,Ds,Dt,B8,Du,vV,vW,vX,vY,B9,vO,Ca,Cb,vP,Cc,Cd,Ce,Cf,Int.reduceEq,decide_true,decide_false,zC,zD,h2,w0,e1,e2,e3,w1 ((n+1)/2) (by omega),hx,Int.toNat_natCast]
  rw[key,hh]
  simp only[if_true]
  split
  ·rename_i hc
   rw[zT (by omega),zC]
  ·rename_i hc
   rw[zF (by omega),zD,zT (by omega),zC,zT (by omega),zC,zT (by omega),zC,zT (by omega),zC,zmt _ _ (rJ _),zc]
   generalize hg:gO (b.extract a (a+(n+1)/2)) (n:Int)=g
   obtain⟨t,e,i⟩:=g
   have gB:=Ko hg
   dsimp only
   by_cases he:e=0
   ·rw[zT he,Bool.not_true,zD,if_pos he,BO _ _ (by omega),zc]
    unfold iZ
    by_cases hv:aY s t=0
    ·simp only[hv,decide_true,Bool.not_true,zD,if_true]
    ·simp only[hv,decide_false,Bool.not_false,zC,if_false]
   ·rw[zF he,Bool.not_false,zC,if_neg he];rfl
 ·have key:sT style b a n s=bif decide ((b.size:Int)-a<((2*n:Nat):Int)) then some (bs [],0,2) else bif decide ((0:Int)<=((a+2*n:Nat):Int)) then bif decide (((a+2*n:Nat):Int)<=(b.size:Int)) then bif decide ((0:Int)<=(a:Int)) then bif decide ((a:Int)<=((a+2*n:Nat):Int)) then(wA (b.extract a (a+2*n))).bind fun r5=>bif !r5.2.2 then some (bs [],0,3) else(lF s r5.1).bind fun r6=>bif !(decide (r6=(0:Int))) then some (bs [],0,r6) else some (r5.1,((a+2*n:Nat):Int),0) else none else none else none else none:=by
   obtain⟨h1,h2⟩:=Gw hh
   have h3:5<=s.2.1:=by omega
   subst h1
   simp only[sT,DJ,DK,DL,DM,Dp,Dq,Dr,B7,Ds,Dt,B8,Du,vV,vW,vX,vY,B9,vO,Ca,Cb,vP,Cc,Cd,Ce,Cf,Int.reduceEq,decide_true,decide_false,zC,zD,h3,w0,ez,w1 (2*n) (by omega),hx,Int.toNat_natCast]
  rw[key,hh]
  simp only[Int.reduceEq,if_false,if_true]
  split
  ·rename_i hc
   rw[zT (by omega),zC]
  ·rename_i hc
   rw[zF (by omega),zD,zT (by omega),zC,zT (by omega),zC,zT (by omega),zC,zT (by omega),zC,Ht _ (rJ _),zc]
   have gB:=zma (b.extract a (a+2*n))
   have h3:=rJ (2*n)
   generalize jI (b.extract a (a+2*n))=g at gB
   obtain⟨t,i,ok⟩:=g
   dsimp only at gB⊢
   cases ok with
   |true=>
    rw[Bool.not_true,zD,if_pos rfl,BO _ _ (by omega),zc]
    unfold iZ
    by_cases hv:aY s t=0
    ·simp only[hv,decide_true,Bool.not_true,zD,if_true]
    ·simp only[hv,decide_false,Bool.not_false,zC,if_false]
   |false=>rw[Bool.not_false,zC,if_neg (by decide)];rfl
theorem Z9(style:Int)(s:Spec)(b:ByteArray)(at_:Int)(hb:b.size<=1099511627776):CK style s b at_=some (kr style s b at_):=by
 have hk:CK style s b at_=bif decide ((style=1\/style=2)/\bf s=0/\0<=at_/\at_<=b.size) then Sa style b at_ s else some (bs [],0,1):=by
  unfold CK DN
  simp only[sM,zc]
  by_cases h1:style=1<;>by_cases h2:style=2<;>by_cases h3:bf s=0<;>by_cases h4:at_<0<;>by_cases h5:(b.size:Int)<at_<;>(try(exfalso;omega))<;>simp [h1,h2,h3,h4,h5,BD,Sb]
  all_goals(try omega)
  all_goals first
   |(rw[zT (by omega),zT (by omega)];rfl)
   |(rw[zF (by omega)];rfl)
   |(rw[zT (by omega),zF (by omega)];rfl)
 rw[hk]
 unfold kr
 by_cases h0:(style=1\/style=2)/\bf s=0/\0<=at_/\at_<=(b.size:Int)
 case neg=>rw[zF h0,if_neg h0];rfl
 rw[zT h0,zC,if_pos h0]
 obtain⟨h1,h2,h3,h4⟩:=h0
 obtain⟨k1,k2,k3,k4,k5,k6,k7,k8,k9⟩:=yt h2
 obtain⟨m,rfl⟩:∃m:Nat,at_=m:=⟨at_.toNat,by omega⟩
 unfold Sa Sc L1
 by_cases h5:s.2.2.1=1
 ·rw[zT h5,Bool.not_true,zD,if_pos h5]
  have:=xS style s b s.2.2.2.1.toNat m hb (by omega) (by omega) h1 k2
  rw[Int.toNat_of_nonneg (by omega),k9 h5] at this
  rw[k9 h5]
  exact this
 ·rw[zF h5,Bool.not_false,zC,if_neg h5,Z8 _ _ _ _ hb,zc]
  by_cases h6:(gL style s.2.2.1 b m).2.2=0
  case neg=>rw[zF h6,if_pos h6];rfl
  rw[zT h6,Bool.not_true,zD,if_neg (fun h=>h h6)]
  have hp:=zzs h6
  unfold BE DO BF Sd BG Se
  dsimp only
  by_cases h7:(gL style s.2.2.1 b m).1<s.2.2.2.1
  ·rw[zT h7,if_pos (.inl h7)];rfl
  rw[zF h7,zD]
  by_cases h8:s.2.2.2.2.1<(gL style s.2.2.1 b m).1
  ·rw[zT h8,if_pos (.inr h8)];rfl
  rw[zF h8,zD,if_neg (fun h=>h.elim h7 h8)]
  have:=xS style s b (gL style s.2.2.1 b m).1.toNat (gL style s.2.2.1 b m).2.1.toNat hb (by omega) (by omega) h1 k2
  rw[Int.toNat_of_nonneg (by omega),Int.toNat_of_nonneg (by omega)] at this
  exact this
def fc(h:Int)(t:ByteArray):ByteArray:=if h=1 then(mD t).1 else if h=2 then oY t else t
def eW(style form:Int)(n:Nat):ByteArray:=if form=1 then bs [] else(kx style form n).1
def lm(style:Int)(s:Spec)(t:ByteArray):ByteArray×Int:=
 if¬(style=1\/style=2) then(bs [],1) else if¬aY s t=0 then(bs [],aY s t) else(eW style s.2.2.1 t.size++fc (bG style s.2.1) t,0)
theorem zg2(t:ByteArray):(mD t).1.size<=500:=by
 by_cases h:t.size<=999/\aX (bl t)=true
 ·rw[Kp h.1 h.2];omega
 ·unfold mD;rw[zF h];exact Nat.zero_le _
theorem zh4(style form:Int)(n:Nat):(eW style form n).size<=500:=by
 unfold eW kx
 split
 ·exact Nat.zero_le _
 ·cases dd style form with
  |false=>exact Nat.zero_le _
  |true=>
   cases(eC (n:Int) form).2 with
   |false=>exact Nat.zero_le _
   |true=>
    show(if style=2 then _ else _:ByteArray).size<=500
    split
    ·exact zg2 _
    ·have:=zh6 (n:Int) form;omega
theorem zgd(h:Int)(t:ByteArray):(fc h t).size<=2*t.size+500:=by
 unfold fc
 split
 ·have:=zg2 t;omega
 ·split
  ·rw[Kr];omega
  ·omega
theorem Sh(x:ByteArray):bs []++x=x:=by
 apply ByteArray.ext
 simp [ByteArray.data_append,bs]
theorem Wt(style c:Int)(t:ByteArray)(hs:style=1\/style=2)(hc:c<=6)(ht:t.size<=1099511627776):jJ style c t=some (fc (bG style c) t):=by
 unfold jJ Nx fc bG
 have hp:=zmv t (by simp only[maxLen];omega)
 have hq:=Hu t ht
 rcases hs with rfl|rfl
 ·by_cases h5:(5:Int)<=c
  ·have:c=5\/c=6:=by omega
   simp [h5,hq,this]
  ·have h6:¬(c=5\/c=6):=by omega
   simp [h5,h6]
 ·by_cases h1:c=1
  ·simp [h1,hp]
  ·simp [h1]
theorem aag(style:Int)(s:Spec)(t:ByteArray)(ht:t.size<=1099511627776):yS style s t=some (lm style s t):=by
 have key:style=1\/style=2->(lF s t).bind (fun r1=>(bif(!(decide (r1=(0:Int)))) then some (bs [],r1) else(bif(!(decide (s.2.2.1=(1:Int)))) then((yQ style s.2.2.1 ((t).size:Int)).bind fun r2=>((jJ style s.2.1 t).bind fun r3=>(bif decide ((r2.1).size+(r3).size<=9223372036854775807) then some (r2.1++r3,(0:Int)) else none))) else((jJ style s.2.1 t).bind fun r4=>(bif decide (((bs [])).size+(r4).size<=9223372036854775807) then some ((bs [])++r4,(0:Int)) else none)))))=some (lm style s t):=fun hs=>by
  unfold lm
  rw[BO s t ht,zc,if_neg (fun h=>h hs)]
  by_cases hv:aY s t=0
  case neg=>rw[zF hv,if_pos hv];rfl
  rw[zT hv,Bool.not_true,zD,if_neg (fun h=>h hv)]
  have hk:=yt ((yl s t ht).1 hv).1
  have dw:=zgd (bG style s.2.1) t
  have ji:=zh4 style s.2.2.1 t.size
  rw[Wt style s.2.1 t hs (by omega) ht]
  simp only[zc]
  by_cases h1:s.2.2.1=1
  ·rw[zT h1,Bool.not_true,zD,zT (by show 0+_<=_;omega),zC]
   unfold eW
   rw[if_pos h1]
  ·unfold eW at ji⊢
   rw[if_neg h1] at ji
   rw[zF h1,Bool.not_false,zC,aaf _ _ _ (by omega),zc,zT (by omega),zC,if_neg h1]
 unfold yS Sf
 by_cases h1:style=1
 ·rw[zT h1,Bool.not_true,zD]
  exact key (.inl h1)
 ·rw[zF h1,Bool.not_false,zC]
  by_cases h2:style=2
  ·rw[zT h2,Bool.not_true,zD]
   exact key (.inr h2)
  ·rw[zF h2,Bool.not_false,zC]
   unfold lm
   rw[if_pos (fun h=>h.elim h1 h2)]
theorem Ws(style:Int)(s:Spec)(t:ByteArray)(ht:t.size<=1099511627776):yI style s t=some (lm style s t):=by
 unfold yI Qo yJ Lu lm
 have dw:=zgd (bG style s.2.1) t
 have ji:=zh4 style s.2.2.1 t.size
 have main:style=1\/style=2->(bB s t).bind (fun r2=>(bif(!(decide (r2=(0:Int)))) then some (bs [],r2) else(bif(!(decide (s.2.2.1=(1:Int)))) then((pk style s.2.2.1 ((t).size:Int)).bind fun r3=>((jX style s.2.1).bind fun r4=>(bif(decide (r4=(1:Int))) then((Q1 t).bind fun r5=>(bif decide ((r3.1).size+(r5.1).size<=9223372036854775807) then some (r3.1++r5.1,(0:Int)) else none)) else(bif(decide (r4=(2:Int))) then((iO t).bind fun r6=>(bif decide ((r3.1).size+(r6).size<=9223372036854775807) then some (r3.1++r6,(0:Int)) else none)) else(bif decide ((r3.1).size+(t).size<=9223372036854775807) then some (r3.1++t,(0:Int)) else none))))) else((jX style s.2.1).bind fun r7=>(bif(decide (r7=(1:Int))) then((Q1 t).bind fun r8=>(bif decide (((bs [])).size+(r8.1).size<=9223372036854775807) then some ((bs [])++r8.1,(0:Int)) else none)) else(bif(decide (r7=(2:Int))) then((iO t).bind fun r9=>(bif decide (((bs [])).size+(r9).size<=9223372036854775807) then some ((bs [])++r9,(0:Int)) else none)) else(bif decide (((bs [])).size+(t).size<=9223372036854775807) then some ((bs [])++t,(0:Int)) else none)))))))=some (if¬aY s t=0 then(bs [],aY s t) else(eW style s.2.2.1 t.size++fc (bG style s.2.1) t,0)):=fun hs=>by
  rw[te s t ht,zc]
  by_cases hv:aY s t=0
  case neg=>rw[zF hv,if_pos hv];rfl
  rw[zT hv,Bool.not_true,zD,if_neg (fun h=>h hv)]
  simp only[Si,zc,Zs _ _ _ (show(t.size:Int)<=9223372036854775807 by omega),zg1 t (by simp only[maxLen];omega),zsv t ht]
  have hz:(bs []).size=0:=rfl
  by_cases h1:s.2.2.1=1
  ·rw[zT h1,Bool.not_true,zD]
   unfold eW
   rw[if_pos h1]
   unfold fc at dw⊢
   rcases DU style s.2.1 with hh|hh|hh<;>rw[hh] at dw⊢ <;>simp only[Int.reduceEq,decide_true,decide_false,zC,zD,if_true,if_false] at dw⊢
   all_goals rw[zT (by omega),zC]
  ·rw[zF h1,Bool.not_false,zC]
   unfold eW at ji⊢
   rw[if_neg h1] at ji⊢
   unfold fc at dw⊢
   rcases DU style s.2.1 with hh|hh|hh<;>rw[hh] at dw⊢ <;>simp only[Int.reduceEq,decide_true,decide_false,zC,zD,if_true,if_false] at dw⊢
   all_goals rw[zT (by omega),zC]
 by_cases h1:style=1
 ·rw[zT h1,zC,zc,Bool.not_true,zD,if_neg (fun h=>h (.inl h1))]
  exact main (.inl h1)
 ·rw[zF h1,zD,zc]
  by_cases h2:style=2
  ·rw[zT h2,Bool.not_true,zD,if_neg (fun h=>h (.inr h2))]
   exact main (.inr h2)
  ·rw[zF h2,if_pos (fun h=>h.elim h1 h2)];rfl
theorem P0(x p y:ByteArray):(x++p++y).extract x.size (x.size+p.size)=p:=by
 apply qt
 rw[z24,sQ,sQ,List.append_assoc,<-zh,<-zh,List.take_append,List.drop_append_of_le_length (by simp),]
 simp
theorem zu(x y:ByteArray):(x++y).size=x.size+y.size:=ByteArray.size_append ..
theorem Ln(b:ByteArray){i j k:Nat}(h:i<=j)(h2:j<=k):b.extract i j++b.extract j k=b.extract i k:=by
 apply qt
 rw[sQ,z24,z24,z24]
 generalize bl b=l
 have e1:l.take j=(l.take k).take j:=by rw[List.take_take];congr 1;omega
 rw[e1]
 generalize l.take k=q
 rw[<-List.take_append_drop (j-i) (q.drop i),List.drop_take,List.drop_drop,show i+(j-i)=j by omega]
theorem acQ{n w:Int}(h:0<=n/\1<=w/\w<=18/\n.toNat/10^w.toNat=0):cL (bl (eC n w).1)=(n,true)/\(eC n w).1.size=w.toNat/\aX (bl (eC n w).1)=true/\(eC n w).2=true:=by
 rw[L7 h]
 dsimp only
 have hb:bl (strOf (jN w.toNat n.toNat))=jN w.toNat n.toNat:=pW (zoc (PX _ _))
 refine⟨?_,by rw[kZ,Kv],by rw[hb];exact PX _ _,rfl⟩
 rw[hb]
 unfold cL
 rw[Kv,PX,if_pos ⟨by omega,by omega,rfl⟩,z156 _ _ h.2.2.2,Int.toNat_of_nonneg h.1]
theorem zz6{s:ByteArray}{n:Int}(h:cL (bl s)=(n,true)):eC n s.size=(s,true)/\0<=n:=by
 unfold cL at h
 split at h
 ·rename_i hc
  obtain⟨h1,h2,h3⟩:=hc
  have hv:fx (bl s) 0=n:=congrArg Prod.fst h
  have hn:=(zto (bl s) 0 0 h3 (Int.le_refl _) (by simp) (by omega)).1
  rw[hv] at hn
  obtain⟨e1,e2⟩:=HI (bl s).length n.toNat (bl s) h3 rfl (by rw[hv,Int.toNat_of_nonneg hn])
  rw[zh] at e1 e2 h1 h2
  refine⟨?_,hn⟩
  rw[L7 ⟨hn,by omega,by omega,by rw[Int.toNat_natCast];exact e2⟩,Int.toNat_natCast,e1,yk]
 ·cases h
theorem zh5{style form:Int}:dd style form=true↔(style=1\/style=2)/\(form=2\/form=3):=by unfold dd;rw[decide_eq_true_eq]
theorem Zt{style form:Int}{n:Nat}(hk:dd style form=true)(hn:n/10^form.toNat=0):kQ style form (kx style form n).1=some (n:Int)/\(kx style form n).1.size=gU style form/\(kx style form n).2=0:=by
 have xG:=zh5.1 hk
 obtain⟨p1,p2,p3,p4⟩:=acQ (n:=(n:Int)) (w:=form) ⟨by omega,by omega,by omega,by rw[Int.toNat_natCast];exact hn⟩
 unfold kQ gU kx
 rw[hk,zC,p4,zC]
 dsimp only
 by_cases hs:style=2
 ·rw[if_pos hs,if_pos hs,if_pos hs]
  have hb:=zo2 (s:=(eC n form).1) (by omega) p3
  rw[p2,Int.toNat_of_nonneg (by omega)] at hb
  rw[hb]
  dsimp only
  rw[if_pos rfl,p1]
  refine⟨rfl,?_,rfl⟩
  rw[Kp (by omega) p3,p2]
 ·rw[if_neg hs,if_neg hs,if_neg hs,p1]
  exact⟨rfl,p2,rfl⟩
theorem WV{style form n:Int}{s:ByteArray}(hk:dd style form=true)(h:kQ style form s=some n)(hs:s.size=gU style form):kx style form n=(s,0)/\0<=n:=by
 have xG:=zh5.1 hk
 unfold kQ at h
 unfold gU at hs
 unfold kx
 rw[hk,zC]
 by_cases h2:style=2
 ·rw[if_pos h2] at h hs⊢
  generalize hg:gO s form=g at h
  obtain⟨t,e,i⟩:=g
  dsimp only at h
  split at h
  case isFalse=>cases h
  rename_i he
  subst he
  obtain⟨a1,a2,a3⟩:=zg4 hg (by omega)
  split at h
  case isFalse=>cases h
  rename_i ho
  have hn:(cL (bl t)).1=n:=by simpa using h
  obtain⟨c1,c2⟩:=zz6 (s:=t) (n:=n) (by rw[<-hn,<-ho])
  rw[a2] at c1
  rw[c1,zC]
  dsimp only
  rw[a1]
  exact⟨rfl,c2⟩
 ·rw[if_neg h2] at h hs⊢
  split at h
  case isFalse=>cases h
  rename_i ho
  have hn:(cL (bl s)).1=n:=by simpa using h
  obtain⟨c1,c2⟩:=zz6 (s:=s) (n:=n) (by rw[<-hn,<-ho])
  rw[hs,Int.toNat_of_nonneg (by omega)] at c1
  rw[c1]
  exact⟨rfl,c2⟩
theorem acP{style form:Int}{n:Nat}(hk:dd style form=true)(hn:n/10^form.toNat=0)(x y:ByteArray):gL style form (x++(kx style form n).1++y) x.size=((n:Int),((x.size+(kx style form n).1.size:Nat):Int),0):=by
 obtain⟨h1,h2,h3⟩:=Zt hk hn
 unfold gL
 rw[hk,zT ⟨by omega,by rw[zu,zu];omega⟩,Bool.and_true,zC,Int.toNat_natCast,if_neg (by rw[zu,zu];omega),<-h2,P0,h1]
theorem Zu{style form n z:Int}{b:ByteArray}{a:Nat}(h:gL style form b a=(n,z,0)):dd style form=true/\0<=n/\a<=b.size/\z=((a+gU style form:Nat):Int)/\a+gU style form<=b.size/\kx style form n=(b.extract a (a+gU style form),0):=by
 unfold gL at h
 cases hk:(dd style form&&decide (0<=(a:Int)/\(a:Int)<=(b.size:Int))) with
 |false=>rw[hk] at h;cases h
 |true=>
  rw[hk,zC,Int.toNat_natCast] at h
  rw[Bool.and_eq_true,decide_eq_true_eq] at hk
  split at h
  ·cases h
  ·rename_i hs
   split at h
   ·rename_i m hm
    cases h
    obtain⟨c1,c2⟩:=WV hk.1 hm (vI (by omega))
    exact⟨hk.1,c2,by omega,rfl,by omega,c1⟩
   ·cases h
theorem ab5{style:Int}{s:Spec}{t:ByteArray}(ht:t.size<=1099511627776)(hv:aY s t=0):jb (bG style s.2.1) (fc (bG style s.2.1) t) t.size= .inr t/\(fc (bG style s.2.1) t).size=fH (bG style s.2.1) t.size:=by
 obtain⟨v1,v2,v3,v4,v5⟩:=(yl s t ht).1 hv
 have hk:=yt v1
 unfold jb fc fH
 rcases DU style s.2.1 with hh|hh|hh<;>rw[hh]<;>simp only[Int.reduceEq,if_true,if_false]
 ·exact⟨trivial,trivial⟩
 ·have hc:=xI hh
  rw[hc.2,I0] at v4
  rw[zo2 (by omega) v4]
  exact⟨rfl,Kp (by omega) v4⟩
 ·rw[H0]
  exact⟨rfl,Kr t⟩
theorem YK{style:Int}{s:Spec}{c t:ByteArray}{n:Nat}(hc:c.size=fH (bG style s.2.1) n)(hn:n<=999)(h:jb (bG style s.2.1) c n= .inr t):fc (bG style s.2.1) t=c/\t.size=n:=by
 unfold jb at h
 unfold fH at hc
 unfold fc
 rcases DU style s.2.1 with hh|hh|hh<;>rw[hh] at h hc⊢ <;>simp only[Int.reduceEq,if_true,if_false] at h hc⊢
 ·injection h with h
  exact⟨h.symm,by rw[<-h];exact hc⟩
 ·split at h
  case isFalse=>cases h
  rename_i he
  generalize hg:gO c (n:Int)=g at h he
  obtain⟨t',e,i⟩:=g
  dsimp only at h he
  subst he
  injection h with h
  subst h
  obtain⟨a1,a2,a3⟩:=zg4 hg (by omega)
  exact⟨by rw[a1],by omega⟩
 ·split at h
  case isFalse=>cases h
  rename_i he
  generalize hg:jI c=g at h he
  obtain⟨t',i,ok⟩:=g
  dsimp only at h he
  subst he
  injection h with h
  subst h
  obtain⟨a1,a2⟩:=zgv hg
  exact⟨a1,by omega⟩
theorem acO{n:Nat}{form:Int}(hf:form=2\/form=3)(h2:form=2->n<=99)(h3:n<=999):n/10^form.toNat=0:=by
 rcases hf with rfl|rfl
 ·show n/100=0
  have:=h2 rfl
  omega
 ·show n/1000=0
  omega
theorem YI{style:Int}{s:Spec}{t:ByteArray}(hs:style=1\/style=2)(ht:t.size<=1099511627776)(hv:aY s t=0)(x y:ByteArray):kr style s (x++(lm style s t).1++y) x.size=(t,((x.size+(lm style s t).1.size:Nat):Int),0):=by
 obtain⟨v1,v2,v3,v4,v5⟩:=(yl s t ht).1 hv
 obtain⟨k1,k2,k3,k4,k5,k6,k7,k8,k9⟩:=yt v1
 obtain⟨c1,c2⟩:=ab5 (style:=style) ht hv
 have hP:(lm style s t).1=eW style s.2.2.1 t.size++fc (bG style s.2.1) t:=by
  unfold lm
  rw[if_neg (fun h=>h hs),if_neg (fun h=>h hv)]
 rw[hP]
 generalize hC:fc (bG style s.2.1) t=C at c1 c2
 have body:∀(p:ByteArray),oV (bG style s.2.1) s (p++C++y) t.size p.size=(t,((p.size+C.size:Nat):Int),0):=fun p=>by
  unfold oV
  rw[<-c2,if_neg (by rw[zu,zu];omega),P0,c1]
  show(if aY s t=0 then _ else _)=_
  rw[if_pos hv]
 unfold kr
 rw[if_pos ⟨hs,v1,by omega,by simp only[zu];omega⟩]
 unfold L1
 by_cases hf:s.2.2.1=1
 ·have hp:eW style s.2.2.1 t.size=bs []:=by unfold eW;rw[if_pos hf]
  rw[if_pos hf,hp,Sh]
  have hn:s.2.2.2.1.toNat=t.size:=by have:=k9 hf;omega
  rw[hn,Int.toNat_natCast]
  exact body x
 ·rw[if_neg hf]
  have hp:eW style s.2.2.1 t.size=(kx style s.2.2.1 t.size).1:=by unfold eW;rw[if_neg hf]
  have iC:dd style s.2.2.1=true:=zh5.2 ⟨hs,by omega⟩
  have hb:=acP iC (n:=t.size) (acO (by omega) (fun e=>by have:=k8 e;omega) (by omega)) x (C++y)
  have zS:x++(eW style s.2.2.1 t.size++C)++y=x++(kx style s.2.2.1 t.size).1++(C++y):=by rw[hp];simp [ByteArray.append_assoc]
  have uT:x++(kx style s.2.2.1 t.size).1++(C++y)=(x++(kx style s.2.2.1 t.size).1)++C++y:=by simp [ByteArray.append_assoc]
  rw[zS,hb]
  dsimp only
  rw[if_neg (fun h=>h rfl),if_neg (by omega)]
  unfold rB
  dsimp only
  rw[Int.toNat_natCast,Int.toNat_natCast,uT]
  have:=body (x++(kx style s.2.2.1 t.size).1)
  rw[zu] at this
  rw[this,hp,zu,Nat.add_assoc]
theorem zcf{style z:Int}{s:Spec}{b t:ByteArray}{a:Nat}(hb:b.size<=1099511627776)(h:kr style s b a=(t,z,0)):(style=1\/style=2)/\aY s t=0/\(a:Int)<=z/\z<=b.size/\t.size<=999/\(lm style s t).1=b.extract a z.toNat:=by
 unfold kr at h
 split at h
 case isFalse=>cases h
 rename_i hc
 obtain⟨hs,v1,ha0,ha1⟩:=hc
 obtain⟨k1,k2,k3,k4,k5,k6,k7,k8,k9⟩:=yt v1
 have body:∀(n p:Nat),n<=999->oV (bG style s.2.1) s b n p=(t,z,0)->aY s t=0/\z=((p+fH (bG style s.2.1) n:Nat):Int)/\p+fH (bG style s.2.1) n<=b.size/\t.size=n/\fc (bG style s.2.1) t=b.extract p (p+fH (bG style s.2.1) n):=by
  intro n p hn h
  unfold oV at h
  split at h
  ·cases h
  ·rename_i ap
   cases hg:jb (bG style s.2.1) (b.extract p (p+fH (bG style s.2.1) n)) (n:Int) with
   |inl e=>
    rw[hg] at h
    replace h:(bs [],(0:Int),e)=(t,z,0):=h
    injection h with _ h
    injection h with _ h
    exfalso
    subst h
    unfold jb at hg
    split at hg
    ·split at hg
     ·cases hg
     ·rename_i cg
      injection hg with hg
      exact cg hg
    ·split at hg
     ·split at hg<;>cases hg
     ·cases hg
   |inr t'=>
    rw[hg] at h
    replace h:(if aY s t'=0 then(t',((p+fH (bG style s.2.1) n:Nat):Int),(0:Int)) else(bs [],0,aY s t'))=(t,z,0):=h
    split at h
    ·rename_i hv
     cases h
     obtain⟨c1,c2⟩:=YK (vI (by omega)) hn hg
     exact⟨hv,rfl,by omega,c2,c1⟩
    ·rename_i hv
     injection h with _ h
     injection h with _ h
     exact absurd h hv
 have fin:aY s t=0->(lm style s t).1=eW style s.2.2.1 t.size++fc (bG style s.2.1) t:=fun hv=>by
  unfold lm
  rw[if_neg (fun h=>h hs),if_neg (fun h=>h hv)]
 unfold L1 at h
 by_cases hf:s.2.2.1=1
 ·rw[if_pos hf] at h
  obtain⟨b1,b2,b3,b4,b5⟩:=body _ _ (by omega) h
  rw[Int.toNat_natCast] at b2 b3 b5
  refine⟨hs,b1,by omega,by omega,by omega,?_⟩
  rw[fin b1,b5,b2,Int.toNat_natCast]
  unfold eW
  rw[if_pos hf,Sh]
 ·rw[if_neg hf] at h
  split at h
  ·rename_i he
   unfold rB at h
   injection h with _ h
   injection h with _ h
   exact absurd h he
  ·rename_i he
   split at h
   ·cases h
   ·rename_i hr
    generalize hg:gL style s.2.2.1 b (a:Int)=g at h he hr
    obtain⟨n,z',e⟩:=g
    dsimp only at h he hr
    have he:e=0:=by
     by_cases e0:e=0
     ·exact e0
     ·exact absurd e0 he
    subst he
    obtain⟨q1,q2,q3,q4,q5,q6⟩:=Zu hg
    obtain⟨b1,b2,b3,b4,b5⟩:=body _ _ (by omega) h
    dsimp only at b2 b3 b5
    subst q4
    rw[Int.toNat_natCast] at b2 b3 b5
    refine⟨hs,b1,by omega,by omega,by omega,?_⟩
    rw[fin b1,b5,b2,Int.toNat_natCast]
    have hpc:eW style s.2.2.1 t.size=b.extract a (a+gU style s.2.2.1):=by
     unfold eW
     rw[if_neg hf,b4,Int.toNat_of_nonneg q2,q6]
    rw[hpc,Ln _ (by omega) (by omega)]
def mi(n:Nat)(l:List Int):Nat:=l.foldl (fun n c=>n*256+c.toNat) n
def fw(l:List Int):Nat:=mi 0 l
def jA(x:Nat):List Int:=[((x/72057594037927936 % 256:Nat):Int),((x/281474976710656 % 256:Nat):Int),((x/1099511627776 % 256:Nat):Int),((x/4294967296 % 256:Nat):Int),((x/16777216 % 256:Nat):Int),((x/65536 % 256:Nat):Int),((x/256 % 256:Nat):Int),((x % 256:Nat):Int)]
theorem Ll{x:Nat}(h:x<18446744073709551616):fw (jA x)=x:=by
 simp only[fw,mi,jA,List.foldl,Int.toNat_natCast]
 omega
theorem eight{l:List Int}(h:l.length=8):∃a b c d e f g i,l=[a,b,c,d,e,f,g,i]:=by
 match l,h with
 | [a,b,c,d,e,f,g,i],_=>exact⟨a,b,c,d,e,f,g,i,rfl⟩
def L0:Nat->Nat->List Int
 |0,_=>[]
 |m+1,x=>L0 m (x/256)++ [((x % 256:Nat):Int)]
theorem z107(l:List Int)(n:Nat)(c:Int):mi n (l++ [c])=mi n l*256+c.toNat:=by
 unfold mi;rw[List.foldl_append];rfl
theorem zse:∀(m:Nat) (l:List Int),l.length=m->(∀y∈l,zn y)->L0 m (fw l)=l/\fw l<256^m
 |0,l,h,_=>by
  have:=List.length_eq_zero_iff.1 h
  subst this
  exact⟨rfl,by decide⟩
 |m+1,l,h,hb=>by
  obtain⟨q,c,rfl⟩:∃q c,l=q++ [c]:=by
   rcases List.eq_nil_or_concat l with e|⟨q,c,e⟩
   ·rw[e] at h;cases h
   ·exact⟨q,c,by rw[e,List.concat_eq_append]⟩
  obtain⟨i1,i2⟩:=zse m q (by rw[List.length_append,List.length_singleton] at h;omega) fun y hy=>hb y (List.mem_append_left _ hy)
  have hc:=hb c (List.mem_append_right _ (by simp))
  unfold zn at hc
  unfold fw at i1 i2⊢
  rw[z107]
  generalize mi 0 q=v at i1 i2
  refine⟨?_,by rw[Nat.pow_succ];omega⟩
  rw[L0,show(v*256+c.toNat)/256=v by omega,i1,show(v*256+c.toNat)% 256=c.toNat by omega,Int.toNat_of_nonneg hc.1]
theorem FT(x:Nat):jA x=L0 8 x:=by
 simp only[L0,jA,Nat.div_div_eq_div_mul,List.nil_append,List.cons_append]
theorem Cj{l:List Int}(h:l.length=8)(hb:∀y∈l,zn y):jA (fw l)=l/\fw l<18446744073709551616:=by
 obtain⟨h1,h2⟩:=zse 8 l h hb
 rw[FT]
 exact⟨h1,by rw[show(256:Nat)^8=18446744073709551616 from by decide] at h2;exact h2⟩
theorem zoa(x:Nat):∀y∈jA x,zn y:=by
 intro y hy
 unfold jA at hy
 simp only[List.mem_cons,List.not_mem_nil,or_false] at hy
 unfold zn
 omega
theorem I3(x:Nat):(jA x).length=8:=rfl
theorem Nq{x:Nat}(hx:x<18446744073709551616):jA x=[0,0,0,0,0,0,0,0]↔x=0:=by
 constructor
 ·intro h
  have:=Ll hx
  rw[h] at this
  rw[<-this];rfl
 ·rintro rfl;rfl
theorem z154(n:Nat):zW zU (n:Int)=((n % 256:Nat):Int):=by
 simp [IntKind.wrap,IntKind.signed,IntKind.bits]
theorem yd(k x:Nat)(j:Nat)(hj:j<8)(p q:List Int):gj (k+1) (x:Int) (j:Int) p q=gj k (x:Int) ((j+1:Nat):Int) p (q.set j ((x/2^(8*(7-j))% 256:Nat):Int)):=by
 have e1:zW zI ((7:Int)-(j:Int))=((7-j:Nat):Int):=by rw[zg (by omega) (by omega)];omega
 have e2:zW zI ((8:Int)*((7-j:Nat):Int))=((8*(7-j):Nat):Int):=by rw[zg (by omega) (by omega)];omega
 conv=>lhs;unfold gj lE
 rw[zT (by omega),zC,e1,e2,zF (by omega),zD,zi hj,KG x _ (by omega),z154,zr (by omega),Int.toNat_natCast]
theorem YF(k x:Nat)(p q:List Int):gj (k+1) (x:Int) ((8:Nat):Int) p q=some (p,q):=by
 unfold gj lE
 rw[zF (by omega)];rfl
theorem zob(x:Nat):Q8 (x:Int)=some (jA x):=by
 obtain⟨k,hk⟩:∃k,ae=k+9:=⟨ae-9,by rw[zq]⟩
 unfold Q8 nY
 dsimp only
 rw[hk,show(0:Int)=((0:Nat):Int) from rfl,yd _ x 0 (by decide),yd _ x 1 (by decide),yd _ x 2 (by decide),yd _ x 3 (by decide),yd _ x 4 (by decide),yd _ x 5 (by decide),yd _ x 6 (by decide),yd _ x 7 (by decide),YF,zc]
 unfold nZ jA
 simp
theorem agV{n c:Nat}(hc:c<256):n*256|||c=n*256+c:=by
 have:=Nat.two_pow_add_eq_or_of_lt (i:=8) (b:=c) hc n
 rw[show(2:Nat)^8=256 from rfl,Nat.mul_comm 256 n] at this
 exact this.symm
theorem zyh(l:List Int)(hl:l.length=8)(hb:∀y∈l,zn y):∀(m j k n:Nat),j+m=8->m<k->n<256^j->iT k (n:Int) l (j:Int)=some ((mi n (l.drop j):Nat):Int)
 |m,j,0,n,_,hk,_=>by omega
 |0,j,k+1,n,hj,hk,_=>by
  unfold iT lD
  rw[zF (by omega),zD,List.drop_eq_nil_of_le (by omega)];rfl
 |m+1,j,k+1,n,hj,hk,hn=>by
  have ap:j<l.length:=by omega
  have hc:=hb _ (List.getElem_mem ap)
  unfold zn at hc
  have hg:l.getD j 0=l[j]:=by rw[List.getD_eq_getElem?_getD,List.getElem?_eq_getElem ap];rfl
  have hp:(256:Nat)^j<=256^7:=Nat.pow_le_pow_right (by decide) (by omega)
  have hp7:(256:Nat)^7=72057594037927936:=by decide
  obtain⟨c,hcc⟩:∃c:Nat,l[j]=(c:Int):=⟨l[j].toNat,by omega⟩
  unfold iT lD
  rw[zT (by omega),zC,zi (by omega),Int.toNat_natCast,hg,hcc,zr (by omega)]
  have e1:IntKind.u64.wrap ((n:Int)*2^min ((8:Int)).toNat 64)=((n*256:Nat):Int):=by
   have:((n:Int)*2^min ((8:Int)).toNat 64)=((n*256:Nat):Int):=by
    rw[show min ((8:Int)).toNat 64=8 from rfl,show(2:Int)^8=256 from by decide];omega
   rw[this];exact Dy (by omega)
  rw[e1,Dy (by omega),vn (by omega) (by omega),agV (by omega)]
  dsimp only
  have Gq:n*256+c<256^(j+1):=by rw[Nat.pow_succ];omega
  rw[zyh l hl hb m (j+1) k _ (by omega) (by omega) Gq,List.drop_eq_getElem_cons ap,hcc]
  rfl
theorem I1(l:List Int)(hl:l.length=8)(hb:∀y∈l,zn y):Q7 l=some ((fw l:Nat):Int):=by
 unfold Q7 nU
 have:=zyh l hl hb 8 0 ae 0 (by omega) (by rw[zq];omega) (by decide)
 rw[show((0:Nat):Int)=0 from rfl,List.drop_zero] at this
 dsimp only
 rw[this];rfl
def c8(style:Int):Nat:=if style=1 then 16 else 8
def ia(style:Int)(b:ByteArray)(a:Nat):Sum Int Nat:=
 if b.size<a+c8 style then .inl 2 else if style=1 then(if(jI (b.extract a (a+c8 style))).2.2=true then .inr (fw (bl (jI (b.extract a (a+c8 style))).1)) else .inl 3) else .inr (fw (bl (b.extract a (a+c8 style))))
def sF(a:Nat)(style:Int):Sum Int Nat->List Int×Int×Int
 | .inl e=>(List.replicate 8 0,0,e)
 | .inr x=>(jA x,((a+c8 style:Nat):Int),0)
theorem xr{t:ByteArray}(h:t.size=8):bE (List.replicate 8 (0:Int)) (List.take 8 (mF t)) 0=jA (fw (bl t)):=by
 have hl:(bl t).length=8:=by rw[zh];exact h
 rw[(Cj hl fun y hy=>gN hy).1]
 have dD:mF t=bl t:=rfl
 rw[dD]
 obtain⟨a,b,c,d,e,f,g,i,hq⟩:=eight hl
 rw[hq]
 rfl
theorem oJ{s t:ByteArray}{i:Int}(h:jI s=(t,i,true))(hs:s.size=16):t.size=8:=by have:=(zgv h).2;omega
theorem Jr(style:Int)(b:ByteArray)(a:Nat)(hb:b.size<=1099511627776)(ha:a<=b.size)(hs:style=1\/style=2):CF style b a=some (sF a style (ia style b a)):=by
 have w0:zW zI ((b.size:Int)-(a:Int))=(b.size:Int)-a:=zg (by omega) (by omega)
 have w8:zW zI ((a:Int)+8)=((a+8:Nat):Int):=by rw[zg (by omega) (by omega)];omega
 have U8:zW zI ((a:Int)+16)=((a+16:Nat):Int):=by rw[zg (by omega) (by omega)];omega
 have wm:zW zI ((8:Int)*2)=16:=by decide
 unfold CF Qg ia c8
 rcases hs with rfl|rfl
 ·simp only[Int.reduceEq,decide_true,zC,wm,w0,U8,if_true,Int.toNat_natCast]
  split
  ·rename_i hc
   rw[zT (by omega)];rfl
  ·rename_i hc
   rw[zF (by omega),zD,zT (by omega),zC,zT (by omega),zC,zT (by omega),zC,zT (by omega),zC,zsu _ (by rw[ByteArray.size_extract];omega),zc]
   generalize hg:jI (b.extract a (a+16))=g
   obtain⟨t,i,ok⟩:=g
   cases ok with
   |false=>rfl
   |true=>
    have ht:=oJ hg (vI (by omega))
    dsimp only
    rw[Bool.not_true,zD,if_pos rfl,xr ht]
    rfl
 ·simp only[Int.reduceEq,decide_false,zD,w0,w8,if_false,Int.toNat_natCast]
  split
  ·rename_i hc
   rw[zT (by omega)];rfl
  ·rename_i hc
   rw[zF (by omega),zD,zT (by omega),zC,zT (by omega),zC,zT (by omega),zC,zT (by omega),zC,xr (vI (by omega))]
   rfl
theorem LZ{style:Int}{b:ByteArray}{a x:Nat}(hs:style=1\/style=2)(h:ia style b a= .inr x):x<18446744073709551616/\a+c8 style<=b.size:=by
 unfold ia c8 at h
 unfold c8
 rcases hs with rfl|rfl
 ·simp only[if_true] at h⊢
  split at h
  ·cases h
  ·split at h
   case isFalse=>cases h
   rename_i hc ho
   injection h with h
   generalize hg:jI (b.extract a (a+16))=g at h ho
   obtain⟨t,i,ok⟩:=g
   dsimp only at h ho
   subst ho
   have ht:=oJ hg (vI (by omega))
   rw[<-h]
   exact⟨(Cj (by rw[zh];exact ht) fun y hy=>gN hy).2,by omega⟩
 ·simp only[Int.reduceEq,if_false] at h⊢
  split at h
  ·cases h
  ·injection h with h
   rw[<-h]
   exact⟨(Cj (by rw[zh];exact vI (by omega)) fun y hy=>gN hy).2,by omega⟩
def ru(e:Int):Nat×Nat×Int×Int:=(0,0,0,e)
def aU(style:Int)(b:ByteArray)(at_:Int):Nat×Nat×Int×Int:=
 if(style=1\/style=2)/\0<=at_/\at_<=b.size then
  match ia style b at_.toNat with
  | .inl e=>ru e
  | .inr x=>if x<9223372036854775808 then(x,0,((at_.toNat+c8 style:Nat):Int),0) else
    match ia style b (at_.toNat+c8 style) with
    | .inl e=>ru e
    | .inr y=>if y=0 then ru 8 else(x-9223372036854775808,y,((at_.toNat+c8 style+c8 style:Nat):Int),0)
 else ru 1
def bmR(r:Nat×Nat×Int×Int):tE×Int×Int:=(((r.1:Int),(r.2.1:Int),()),r.2.2.1,r.2.2.2)
theorem afm{x:Nat}(hx:x<18446744073709551616):decide (aD .and .u64 (x:Int) (9223372036854775808:Int)=0)=decide (x<9223372036854775808):=by
 rw[show(9223372036854775808:Int)=((9223372036854775808:Nat):Int) from rfl,lL hx (by decide)]
 apply decide_eq_decide.2
 have h:=z8t x 63
 rw[show(2:Nat)^63=9223372036854775808 from by decide] at h
 constructor
 ·intro e
  have e:x&&&9223372036854775808=0:=by omega
  have:=h.1 e
  rcases Nat.lt_or_ge x 9223372036854775808 with h1|h1
  ·exact h1
  ·have h2:x.testBit 63=true:=by
    rw[Nat.testBit_eq_decide_div_mod_eq]
    exact zT (by omega)
   rw[h2] at this;cases this
 ·intro e
  have:x.testBit 63=false:=Nat.testBit_lt_two_pow (by rw[show(2:Nat)^63=9223372036854775808 from by decide];exact e)
  have:=h.2 this
  omega
theorem afn{x:Nat}(hx:x<18446744073709551616)(h:¬x<9223372036854775808):aD .andNot .u64 (x:Int) (9223372036854775808:Int)=((x-9223372036854775808:Nat):Int):=by
 rw[show(9223372036854775808:Int)=((9223372036854775808:Nat):Int) from rfl,abR hx (by decide)]
 have:x&&&(18446744073709551615-9223372036854775808)=x-9223372036854775808:=by
  have:=Nat.and_two_pow_sub_one_eq_mod x 63
  rw[show(2:Nat)^63-1=18446744073709551615-9223372036854775808 from by decide,show(2:Nat)^63=9223372036854775808 from by decide] at this
  omega
 rw[this]
theorem abY(style:Int)(b:ByteArray)(at_:Int)(hb:b.size<=1099511627776):Q5 style b at_=some (bmR (aU style b at_)):=by
 have hk:Q9 style=some (decide (style=1\/style=2)):=by
  unfold Q9 lG
  by_cases h1:style=1
  ·rw[zT (p:=style=1\/style=2) (.inl h1),zT h1];rfl
  ·rw[zF h1,zD]
   by_cases h2:style=2
   ·rw[zT (p:=style=1\/style=2) (.inr h2),zT h2]
   ·rw[zF (p:=style=1\/style=2) (fun h=>h.elim h1 h2),zF h2]
 unfold Q5 nH aU
 rw[hk,zc]
 by_cases h1:style=1\/style=2
 case neg=>rw[zF h1,if_neg (fun h=>h1 h.1)];rfl
 rw[zT h1,Bool.not_true,zD]
 by_cases h3:at_<0
 ·rw[zT h3,if_neg (fun h=>by omega)];rfl
 rw[zF h3,zD]
 by_cases h4:(b.size:Int)<at_
 ·rw[zT h4,if_neg (fun h=>by omega)];rfl
 rw[zF h4,zD,if_pos ⟨h1,by omega,by omega⟩]
 obtain⟨m,rfl⟩:∃m:Nat,at_=m:=⟨at_.toNat,by omega⟩
 rw[Int.toNat_natCast,Jr style b m hb (by omega) h1,zc]
 cases hT:ia style b m with
 |inl e=>
  have he:¬e=0:=by
   unfold ia at hT
   split at hT
   ·cases hT;decide
   ·split at hT
    ·split at hT
     ·cases hT
     ·cases hT;decide
    ·cases hT
  show(bif(!(decide (e=0))) then _ else _)=_
  rw[zF he];rfl
 |inr x=>
  obtain⟨hx,dh⟩:=LZ h1 hT
  show(bif(!(decide ((0:Int)=0))) then _ else(Q7 (jA x)).bind _)=_
  rw[zT rfl,Bool.not_true,zD,I1 _ (I3 x) (zoa x),zc,Ll hx,afm hx]
  by_cases ap:x<9223372036854775808
  ·rw[zT ap,zC]
   dsimp only
   rw[if_pos ap];rfl
  ·rw[zF ap,zD]
   dsimp only[sF]
   rw[Jr style b (m+c8 style) hb (by omega) h1,zc,if_neg ap]
   cases hU:ia style b (m+c8 style) with
   |inl e=>
    have he:¬e=0:=by
     unfold ia at hU
     split at hU
     ·cases hU;decide
     ·split at hU
      ·split at hU
       ·cases hU
       ·cases hU;decide
      ·cases hU
    show(bif(!(decide (e=0))) then _ else _)=_
    rw[zF he];rfl
   |inr y=>
    obtain⟨hy,hsy⟩:=LZ h1 hU
    rw[show sF (m+c8 style) style (.inr y)=(jA y,((m+c8 style+c8 style:Nat):Int),(0:Int)) from rfl]
    dsimp only
    rw[zT rfl,Bool.not_true,zD]
    by_cases hz:y=0
    ·rw[zT ((Nq hy).2 hz),zC]
     rw[if_pos hz];rfl
    ·rw[zF (fun h=>hz ((Nq hy).1 h)),zD,I1 _ (I3 y) (zoa y),zc,Ll hy,afn hx ap]
     rw[if_neg hz];rfl
def cD(style:Int)(t:ByteArray):ByteArray:=if style=1 then oY t else t
def wB(x:Nat):ByteArray:=strOf (jA x)
theorem yb(x:Nat):bl (wB x)=jA x:=pW (zoa x)
theorem qs(x:Nat):(wB x).size=8:=by unfold wB;rw[kZ];rfl
theorem yg{style:Int}(x:Nat):(cD style (wB x)).size=c8 style:=by
 unfold cD c8
 split
 ·rw[Kr,qs]
 ·exact qs x
def b7(style:Int)(h l:Nat):ByteArray×Int:=
 if(style=1\/style=2)/\h<9223372036854775808 then((if l=0 then cD style (wB h) else cD style (wB (h+9223372036854775808))++cD style (wB l)),0) else(bs [],1)
theorem zmb:∀a b:List Int,cV (a++b)=cV a++cV b
 | [],b=>rfl
 |x::r,b=>by rw[List.cons_append,cV,cV,zmb r b];rfl
theorem Vk(a b:ByteArray):oY (a++b)=oY a++oY b:=by
 unfold oY
 rw[sQ,zmb,MU]
theorem zm4(style:Int)(a b:ByteArray):cD style (a++b)=cD style a++cD style b:=by
 unfold cD
 split
 ·exact Vk a b
 ·rfl
theorem I6{h l:Nat}(hh:h<cz):bh h l 1= !decide (h<9223372036854775808):=by
 have e:bh h l 1=h.testBit 63:=by
  unfold bh
  rw[if_pos (by decide)];rfl
 rw[e]
 rcases Nat.lt_or_ge h 9223372036854775808 with h1|h1
 ·rw[zT h1]
  exact Nat.testBit_lt_two_pow (by rw[show(2:Nat)^63=9223372036854775808 from by decide];exact h1)
 ·rw[zF (by omega),Nat.testBit_eq_decide_div_mod_eq]
  have hh:h<18446744073709551616:=hh
  exact zT (by omega)
theorem Kc{h:Nat}(hh:h<9223372036854775808):h|||9223372036854775808=h+9223372036854775808:=by
 have:=Nat.two_pow_add_eq_or_of_lt (i:=63) (b:=h) (by rw[show(2:Nat)^63=9223372036854775808 from by decide];exact hh) 1
 rw[show(2:Nat)^63=9223372036854775808 from by decide,Nat.mul_one] at this
 rw[Nat.or_comm,<-this,Nat.add_comm]
theorem PW(x:ByteArray):x++bs []=x:=by
 apply ByteArray.ext
 simp [ByteArray.data_append,bs]
theorem abZ(style:Int)(h l:Nat)(hh:h<cz)(hl:l<cz):Q6 style ((h:Int),(l:Int),())=some (b7 style h l):=by
 have hk:Q9 style=some (decide (style=1\/style=2)):=by
  unfold Q9 lG
  by_cases h1:style=1
  ·rw[zT (p:=style=1\/style=2) (.inl h1),zT h1];rfl
  ·rw[zF h1,zD]
   by_cases h2:style=2
   ·rw[zT (p:=style=1\/style=2) (.inr h2),zT h2]
   ·rw[zF (p:=style=1\/style=2) (fun h=>h.elim h1 h2),zF h2]
 unfold Q6 nL b7
 rw[hk,zc]
 by_cases h1:style=1\/style=2
 case neg=>rw[zF h1,if_neg (fun h=>h1 h.1)];rfl
 rw[zT h1,Bool.not_true,zD,afq h l hh hl,zc,I6 hh]
 by_cases h2:h<9223372036854775808
 case neg=>rw[zF h2,if_neg (fun h=>h2 h.2)];rfl
 rw[zT h2,Bool.not_true,zD,if_pos ⟨h1,h2⟩]
 have hH:Mc ((h:Int),(l:Int),())=some ((h:Int),(l:Int)):=rfl
 rw[hH,zc]
 dsimp only
 rw[zob,zc]
 have z8:∀x:Nat,Nat.beq 8 (List.length (jA x))=true:=fun x=>rfl
 have fin:∀t:ByteArray,t.size<=16->(bif decide (style=1) then(iO t).bind fun r6=>some (r6,(0:Int)) else some (t,0))=some (cD style t,0):=fun t ht=>by
  unfold cD
  by_cases hs:style=1
  ·rw[zT hs,zC,zsv t (by omega),if_pos hs];rfl
  ·rw[zF hs,if_neg hs];rfl
 by_cases hz:l=0
 ·rw[zT ((Nq hl).2 hz),if_pos hz,Bool.not_true,zD,zob,zc,z8,zC]
  have dh:(strOf (jA h)).size=8:=qs h
  rw[zT (by rw[dh];decide),zC,PW]
  exact fin (wB h) (by rw[qs];decide)
 ·have hor:aD .or .u64 (h:Int) (9223372036854775808:Int)=((h+9223372036854775808:Nat):Int):=by
   rw[show(9223372036854775808:Int)=((9223372036854775808:Nat):Int) from rfl,vn hh (by decide),Kc h2]
  rw[zF (fun e=>hz ((Nq hl).1 e)),if_neg hz,Bool.not_false,zC,z8,zC,hor,zob,zc,z8,zC]
  have dh:∀x,(strOf (jA x)).size=8:=fun x=>qs x
  rw[zT (by rw[dh,dh];decide),zC,<-zm4]
  exact fin (wB _++wB l) (by rw[zu,qs,qs];decide)
theorem ae6(b:ByteArray){a:Nat}{style:Int}(h:a+c8 style<=b.size):(b.extract a (a+c8 style)).size=c8 style:=vI h
theorem zo9{style:Int}{v:Nat}(hs:style=1\/style=2)(hv:v<18446744073709551616)(x y:ByteArray):ia style (x++cD style (wB v)++y) x.size= .inr v:=by
 have hz:=yg (style:=style) v
 unfold ia
 rw[if_neg (by rw[zu,zu];omega),<-hz,P0]
 rcases hs with rfl|rfl
 ·rw[if_pos rfl]
  unfold cD
  rw[if_pos rfl,H0]
  dsimp only
  rw[if_pos rfl,yb,Ll hv]
 ·rw[if_neg (by decide)]
  unfold cD
  rw[if_neg (by decide),yb,Ll hv]
theorem zyi{style:Int}{b:ByteArray}{a v:Nat}(hs:style=1\/style=2)(h:ia style b a= .inr v):cD style (wB v)=b.extract a (a+c8 style)/\v<18446744073709551616/\a+c8 style<=b.size:=by
 obtain⟨h1,h2⟩:=LZ hs h
 refine⟨?_,h1,h2⟩
 have hz:=ae6 b h2
 unfold ia at h
 rw[if_neg (by omega)] at h
 unfold cD wB
 rcases hs with rfl|rfl
 ·rw[if_pos rfl] at h⊢
  split at h
  case isFalse=>cases h
  rename_i ho
  generalize hg:jI (b.extract a (a+c8 1))=g at h ho
  obtain⟨t,i,ok⟩:=g
  dsimp only at h ho
  subst ho
  injection h with h
  have ht:=oJ hg hz
  obtain⟨e1,_⟩:=Cj (l:=bl t) (by rw[zh];exact ht) fun y hy=>gN hy
  rw[<-h,e1,yk,(zgv hg).1]
 ·rw[if_neg (by decide)] at h⊢
  injection h with h
  obtain⟨e1,_⟩:=Cj (l:=bl (b.extract a (a+c8 2))) (by rw[zh];exact hz) fun y hy=>gN hy
  rw[<-h,e1,yk]
theorem Nn{style:Int}{h l:Nat}(hs:style=1\/style=2)(hh:h<9223372036854775808):b7 style h l=((if l=0 then cD style (wB h) else cD style (wB (h+9223372036854775808))++cD style (wB l)),0):=by
 unfold b7
 rw[if_pos ⟨hs,hh⟩]
theorem aeS{style:Int}{h l:Nat}(hs:style=1\/style=2)(hh:h<9223372036854775808)(hl:l<18446744073709551616)(x y:ByteArray):aU style (x++(b7 style h l).1++y) x.size=(h,l,((x.size+(b7 style h l).1.size:Nat):Int),0):=by
 rw[Nn hs hh]
 dsimp only
 unfold aU
 rw[if_pos ⟨hs,by omega,by simp only[zu];omega⟩,Int.toNat_natCast]
 by_cases hz:l=0
 ·rw[if_pos hz,zo9 hs (by omega) x y]
  dsimp only
  rw[if_pos hh,yg,hz]
 ·rw[if_neg hz]
  have e1:x++(cD style (wB (h+9223372036854775808))++cD style (wB l))++y=x++cD style (wB (h+9223372036854775808))++(cD style (wB l)++y):=by simp [ByteArray.append_assoc]
  have e2:x++(cD style (wB (h+9223372036854775808))++cD style (wB l))++y=(x++cD style (wB (h+9223372036854775808)))++cD style (wB l)++y:=by simp [ByteArray.append_assoc]
  have t1:=zo9 hs (v:=h+9223372036854775808) (by omega) x (cD style (wB l)++y)
  have t2:=zo9 hs hl (x++cD style (wB (h+9223372036854775808))) y
  rw[<-e1] at t1
  rw[<-e2,zu,yg] at t2
  rw[t1]
  dsimp only
  rw[if_neg (by omega),t2]
  dsimp only
  rw[if_neg hz,zu,yg,yg,show h+9223372036854775808-9223372036854775808=h by omega,Nat.add_assoc]
theorem HF{style z:Int}{b:ByteArray}{a h l:Nat}(hg:aU style b a=(h,l,z,0)):(style=1\/style=2)/\h<9223372036854775808/\l<18446744073709551616/\(a:Int)<=z/\z<=b.size/\(b7 style h l).1=b.extract a z.toNat:=by
 unfold aU at hg
 split at hg
 case isFalse=>cases hg
 rename_i hc
 obtain⟨hs,h0,h1⟩:=hc
 rw[Int.toNat_natCast] at hg
 cases hT:ia style b a with
 |inl e=>
  exfalso
  rw[hT] at hg
  have he:e=0:=by
   have:=congrArg (fun r:Nat×Nat×Int×Int=>r.2.2.2) hg
   exact this
  subst he
  unfold ia at hT
  split at hT
  ·cases hT
  ·split at hT
   ·split at hT<;>cases hT
   ·cases hT
 |inr x=>
  rw[hT] at hg
  obtain⟨e1,e2,e3⟩:=zyi hs hT
  dsimp only at hg
  split at hg
  ·rename_i ap
   injection hg with g1 g2
   injection g2 with g2 g3
   injection g3 with g3 _
   subst g1 g2 g3
   refine⟨hs,ap,by decide,by omega,by omega,?_⟩
   rw[Nn hs ap,if_pos rfl,e1,Int.toNat_natCast]
  ·rename_i Ms
   cases hU:ia style b (a+c8 style) with
   |inl e=>
    exfalso
    rw[hU] at hg
    have he:e=0:=by
     have:=congrArg (fun r:Nat×Nat×Int×Int=>r.2.2.2) hg
     exact this
    subst he
    unfold ia at hU
    split at hU
    ·cases hU
    ·split at hU
     ·split at hU<;>cases hU
     ·cases hU
   |inr y=>
    rw[hU] at hg
    obtain⟨f1,f2,f3⟩:=zyi hs hU
    dsimp only at hg
    split at hg
    ·exfalso
     have:=congrArg (fun r:Nat×Nat×Int×Int=>r.2.2.2) hg
     cases this
    ·rename_i hz
     injection hg with g1 g2
     injection g2 with g2 g3
     injection g3 with g3 _
     subst g1 g2 g3
     refine⟨hs,by omega,f2,by omega,by omega,?_⟩
     rw[Nn hs (by omega),if_neg hz,show x-9223372036854775808+9223372036854775808=x by omega,e1,f1,Int.toNat_natCast]
     exact Ln _ (by omega) (by omega)
end bu

set_option maxRecDepth 10000
namespace bu
open Go.IntKind renaming wrap->zW,i64->zI,u8->zU
open Go Go.Ref
@[irreducible] def pL (x base m:Nat):List Int:=((List.range m).filter fun k=>x.testBit (63-k)).map fun k=>((base+k:Nat):Int)
theorem afh(x base m:Nat):pL x base (m+1)=if x.testBit (63-m)=true then pL x base m++ [((base+m:Nat):Int)] else pL x base m:=by
 unfold pL
 rw[List.range_succ,List.filter_append,List.map_append]
 split
 ·rename_i h;rw[List.filter_cons_of_pos (by exact h)];rfl
 ·rename_i h;rw[List.filter_cons_of_neg (by exact h)];simp
theorem BK(x base m:Nat):(pL x base m).length<=m:=by
 unfold pL
 rw[List.length_map]
 exact Nat.le_trans (List.length_filter_le _ _) (by rw[List.length_range];exact Nat.le_refl _)
theorem zm2(h l:Nat):elems h l=pL h 1 64++pL l 65 64:=by
 unfold elems l8 pL
 rw[List.filter_map,show(128:Nat)=64+64 from rfl,List.range_add,List.filter_append,List.map_append,List.filter_map,List.map_map]
 congr 1
 ·have:(List.range 64).filter (bh h l∘fun k:Nat=>((k+1:Nat):Int))=(List.range 64).filter fun k=>h.testBit (63-k):=List.filter_congr fun k hk=>by
   have hk:=List.mem_range.1 hk
   show bh h l ((k+1:Nat):Int)=_
   unfold bh
   rw[if_pos (by omega),show(64-((k+1:Nat):Int)).toNat=63-k by omega]
  rw[this]
  apply List.map_congr_left
  intro k _
  rw[Nat.add_comm]
 ·have:(List.range 64).filter ((bh h l∘fun k:Nat=>((k+1:Nat):Int))∘fun k=>64+k)=(List.range 64).filter fun k=>l.testBit (63-k):=List.filter_congr fun k hk=>by
   have hk:=List.mem_range.1 hk
   show bh h l ((64+k+1:Nat):Int)=_
   unfold bh
   rw[if_neg (by omega),if_pos (by omega),show(128-((64+k+1:Nat):Int)).toNat=63-k by omega]
  rw[this]
  apply List.map_congr_left
  intro k _
  show((64+k+1:Nat):Int)=_
  rw[show 64+k+1=65+k by omega]
def As(k:Nat):Nat:=if k<8 then 2^(7-k) else 0
theorem FU:∀c:Fin 256,∀k:Fin 8,(As k.1=2^(7-k.1))/\(decide ((As k.1:Int)<=((c.1 % 2^(8-k.1):Nat):Int))=c.1.testBit (7-k.1))/\(c.1.testBit (7-k.1)=true->zW zU (((c.1 % 2^(8-k.1):Nat):Int)-(As k.1:Int))=((c.1 % 2^(8-(k.1+1)):Nat):Int))/\(c.1.testBit (7-k.1)=false->c.1 % 2^(8-k.1)=c.1 % 2^(8-(k.1+1)))/\zW zU (Int.tdiv (As k.1:Int) 2)=(As (k.1+1):Int):=by decide+kernel
theorem z131(x i k:Nat)(hi:i<8)(hk:k<8):(x/2^(56-8*i)% 256).testBit (7-k)=x.testBit (63-(8*i+k)):=by
 rw[show(256:Nat)=2^8 from rfl,Nat.testBit_mod_two_pow,zT (by omega),Bool.true_and,Nat.testBit_div_two_pow]
 congr 1
 omega
theorem Jk(x:Nat)(t:ByteArray)(base i:Nat)(hi:i<8)(je:base<=65):∀(m k K:Nat),k+m=8->m<K->
 CA K (base:Int) t (pL x base (8*i+k)) (i:Int) ((x/2^(56-8*i)% 256 % 2^(8-k):Nat):Int) (As k:Int) (k:Int)=some ((base:Int),t,pL x base (8*i+8),(i:Int))
 |m,k,0,_,hK=>by omega
 |0,k,K+1,hk,hK=>by
  have:k=8:=by omega
  subst this
  unfold CA LO
  rw[zF (by omega)];rfl
 |m+1,k,K+1,hk,hK=>by
  have S4:k<8:=by omega
  have hc:x/2^(56-8*i)% 256<256:=Nat.mod_lt _ (by decide)
  obtain⟨b1,b2,b3,b4,b5⟩:=FU ⟨_,hc⟩ ⟨k,S4⟩
  simp only at b1 b2 b3 b4 b5
  have ih:=Jk x t base i hi je m (k+1) K (by omega) (by omega)
  have hl:=BK x base (8*i+k)
  have e1:zW zI ((8:Int)*(i:Int))=((8*i:Nat):Int):=by rw[zg (by omega) (by omega)];omega
  have e2:zW zI ((base:Int)+((8*i:Nat):Int))=((base+8*i:Nat):Int):=by rw[zg (by omega) (by omega)];omega
  have e3:zW zI (((base+8*i:Nat):Int)+(k:Int))=((base+(8*i+k):Nat):Int):=by rw[zg (by omega) (by omega)];omega
  unfold CA LO
  rw[zT (by omega),zC,b2,e1,e2,e3,b5,zr (by omega),z131 x i k hi S4]
  have ps:=afh x base (8*i+k)
  rw[Nat.add_assoc] at ps
  have zX:=z131 x i k hi S4
  cases hb:x.testBit (63-(8*i+k)) with
  |true=>
   rw[hb] at ps zX
   rw[if_pos rfl] at ps
   rw[zC,zT (by simp only[List.length_singleton];omega),zC,b3 zX]
   dsimp only
   rw[<-ps]
   exact ih
  |false=>
   rw[hb] at ps zX
   rw[if_neg (by decide)] at ps
   rw[zD,b4 zX]
   dsimp only
   rw[<-ps]
   exact ih
theorem Ie(x:Nat)(t:ByteArray)(ht:t.size=8)(dD:∀i,i<8->ze t i=((x/2^(56-8*i)% 256:Nat):Int))(base:Nat)(je:base<=65):∀(m i K:Nat),i+m=8->m<K->
 yx K (base:Int) t (pL x base (8*i)) (i:Int)=some (pL x base 64)
 |m,i,0,_,hK=>by omega
 |0,i,K+1,hi,hK=>by
  have:i=8:=by omega
  subst this
  unfold yx LN
  rw[zF (by omega)];rfl
 |m+1,i,K+1,hi,hK=>by
  have h1:=Jk x t base i (by omega) je 8 0 ae (by omega) (by rw[zq];omega)
  have e0:x/2^(56-8*i)% 256 % 2^(8-0)=x/2^(56-8*i)% 256:=Nat.mod_mod _ _
  rw[e0,show(As 0:Int)=128 from rfl,Nat.add_zero] at h1
  unfold yx LN
  rw[zT (by omega),zC,zi (by omega),Int.toNat_natCast,dD i (by omega)]
  dsimp only
  rw[show(0:Int)=((0:Nat):Int) from rfl,h1,zc]
  unfold R0
  dsimp only
  rw[zr (by omega)]
  exact Ie x t ht dD base je m (i+1) K (by omega) (by omega)
theorem aeT{t:ByteArray}(ht:t.size=8):∀i,i<8->ze t i=((fw (bl t)/2^(56-8*i)% 256:Nat):Int):=by
 intro i hi
 have hl:(bl t).length=8:=by rw[zh];exact ht
 have h:=(Cj hl fun y hy=>gN hy).1
 have e:(bl t).getD i 0=(jA (fw (bl t))).getD i 0:=congrArg (fun l=>List.getD l i 0) h.symm
 rw[mC,e]
 generalize fw (bl t)=v
 match i,hi with
 |0,_=>rfl
 |1,_=>rfl
 |2,_=>rfl
 |3,_=>rfl
 |4,_=>rfl
 |5,_=>rfl
 |6,_=>rfl
 |7,_=>show((v % 256:Nat):Int)=((v/1 % 256:Nat):Int);rw[Nat.div_one]
def xW(base:Nat):Sum Int Nat->List Int×Int
 | .inl e=>([],e)
 | .inr x=>(pL x base 64,0)
theorem Jj(style:Int)(b:ByteArray)(a base:Nat)(hb:b.size<=1099511627776)(ha:a<=b.size)(hs:style=1\/style=2)(je:base<=65):nW style b a base=some (xW base (ia style b a)):=by
 have w0:zW zI ((b.size:Int)-(a:Int))=(b.size:Int)-a:=zg (by omega) (by omega)
 have w8:zW zI ((a:Int)+8)=((a+8:Nat):Int):=by rw[zg (by omega) (by omega)];omega
 have U8:zW zI ((a:Int)+16)=((a+16:Nat):Int):=by rw[zg (by omega) (by omega)];omega
 have go:∀t:ByteArray,t.size=8->((yx ae (base:Int) t [] 0).bind fun e=>RZ e (fun a0 a1=>some (a0,a1)))=some (pL (fw (bl t)) base 64,0):=fun t ht=>by
  have:=Ie (fw (bl t)) t ht (aeT ht) base je 8 0 ae (by omega) (by rw[zq];omega)
  rw[show pL (fw (bl t)) base (8*0)=[] from by unfold pL;rfl,show((0:Nat):Int)=0 from rfl] at this
  rw[this];rfl
 unfold nW DH ia c8
 rcases hs with rfl|rfl
 ·simp only[Int.reduceEq,decide_true,zC,w0,U8,if_true,Int.toNat_natCast]
  split
  ·rename_i hc
   rw[zT (by omega)];rfl
  ·rename_i hc
   rw[zF (by omega),zD,zT (by omega),zC,zT (by omega),zC,zT (by omega),zC,zT (by omega),zC,Ht _ (by rw[ByteArray.size_extract];omega),zc]
   generalize hg:jI (b.extract a (a+16))=g
   obtain⟨t,i,ok⟩:=g
   cases ok with
   |false=>rfl
   |true=>
    have ht:=oJ hg (vI (by omega))
    dsimp only
    rw[Bool.not_true,zD,if_pos rfl,go t ht]
    rfl
 ·simp only[Int.reduceEq,decide_false,zD,w0,w8,if_false,Int.toNat_natCast]
  split
  ·rename_i hc
   rw[zT (by omega)];rfl
  ·rename_i hc
   rw[zF (by omega),zD,zT (by omega),zC,zT (by omega),zC,zT (by omega),zC,zT (by omega),zC,go _ (vI (by omega))]
   rfl
theorem PV{style e:Int}{b:ByteArray}{a:Nat}(h:ia style b a= .inl e):e≠0:=by
 unfold ia at h
 split at h
 ·cases h;decide
 ·split at h
  ·split at h
   ·cases h
   ·cases h;decide
  ·cases h
theorem Jh(base m:Nat):pL 0 base m=[]:=by
 unfold pL
 rw[List.filter_eq_nil_iff.2 (fun k _=>by simp)];rfl
theorem Jg(x:Nat)(hx:x<18446744073709551616):(x<9223372036854775808->∀y∈pL x 1 64,y≠1)/\(¬x<9223372036854775808->pL x 1 64=1::pL (x-9223372036854775808) 1 64):=by
 refine⟨fun h y hy e=> ?_,fun h=> ?_⟩
 ·unfold pL at hy
  obtain⟨k,hk,rfl⟩:=List.mem_map.1 hy
  obtain⟨h1,h2⟩:=List.mem_filter.1 hk
  have:k=0:=by omega
  subst this
  have:x.testBit 63=false:=Nat.testBit_lt_two_pow (by rw[show(2:Nat)^63=9223372036854775808 from by decide];exact h)
  rw[Nat.sub_zero,this] at h2;cases h2
 ·have hm:x-9223372036854775808=x % 2^63:=by rw[show(2:Nat)^63=9223372036854775808 from by decide];omega
  have t1:x.testBit 63=true:=by rw[Nat.testBit_eq_decide_div_mod_eq];exact zT (by omega)
  have t2:(x % 2^63).testBit 63=false:=by rw[Nat.testBit_mod_two_pow];rfl
  rw[hm]
  unfold pL
  rw[show(64:Nat)=63+1 from rfl,List.range_succ_eq_map,List.filter_cons_of_pos (by exact t1),List.filter_cons_of_neg (by rw[Nat.sub_zero,t2];decide),List.map_cons]
  have hf:List.filter (fun k=>x.testBit (63-k)) ((List.range 63).map Nat.succ)=List.filter (fun k=>(x % 2^63).testBit (63-k)) ((List.range 63).map Nat.succ):=by
   apply List.filter_congr
   intro k hk
   obtain⟨j,hj,rfl⟩:=List.mem_map.1 hk
   have hj:=List.mem_range.1 hj
   rw[Nat.testBit_mod_two_pow,zT (by omega),Bool.true_and]
  rw[hf]
  rfl
theorem rl{α:Type}{p:Prop}[Decidable p](h:p){x y:α}:(bif decide p then x else y)=x:=by rw[zT h];rfl
theorem rj{α:Type}{p:Prop}[Decidable p](h:¬p){x y:α}:(bif decide p then x else y)=y:=by rw[zF h];rfl
theorem CC{α:Type}{p:Prop}[Decidable p](h:p){x y:α}:(bif !decide p then x else y)=y:=by rw[zT h];rfl
theorem DQ{α:Type}{p:Prop}[Decidable p](h:¬p){x y:α}:(bif !decide p then x else y)=x:=by rw[zF h];rfl
def eJ(r:Nat×Nat×Int×Int):List Int×Int×Int:=if r.2.2.2=0 then(elems r.1 r.2.1,r.2.2.1,0) else([],0,r.2.2.2)
theorem HS(h l:Nat)(z:Int):eJ (h,l,z,0)=(elems h l,z,0):=by
 unfold eJ
 simp only[if_true]
theorem zgs{e:Int}(he:e≠0):eJ (ru e)=([],0,e):=by
 unfold eJ ru
 simp only[he,if_false]
def sV(P2:Option (List Int×Int))(z1 z2:Int)(r1:List Int×Int):Option (List Int×Int×Int):=(bif(!(decide (r1.2=(0:Int)))) then some (([]:List Int),(0:Int),r1.2) else(bif(decide (((List.length r1.1):Int)=(0:Int))) then some (r1.1,z1,(0:Int)) else(zd (0:Int) (List.length r1.1) (bif(!(decide ((List.getD r1.1 ((0:Int)).toNat (0:Int))=(1:Int)))) then some (r1.1,z1,(0:Int)) else(P2.bind fun r2=>(bif(!(decide (r2.2=(0:Int)))) then some (([]:List Int),(0:Int),r2.2) else(bif(decide (((List.length r2.1):Int)=(0:Int))) then some (([]:List Int),(0:Int),(8:Int)) else(bif(decide ((1:Int)<=(((List.length r1.1):Nat):Int))) then(bif(decide (((List.length ([]:List Int))+(List.length (List.drop ((1:Int)).toNat (List.take (List.length r1.1) r1.1))))*8<=140737488355328)) then(bif(decide (((List.length (([]:List Int)++(List.drop ((1:Int)).toNat (List.take (List.length r1.1) r1.1))))+(List.length r2.1))*8<=140737488355328)) then some (((([]:List Int)++(List.drop ((1:Int)).toNat (List.take (List.length r1.1) r1.1)))++r2.1),z2,(0:Int)) else none) else none) else none))))))))
theorem adi{P2:Option (List Int×Int)}{z1 z2 e:Int}(he:e≠0):sV P2 z1 z2 ([],e)=some ([],0,e):=DQ he
theorem W6{P2:Option (List Int×Int)}{z1 z2:Int}{l:List Int}(h:∀y∈l,y≠1):sV P2 z1 z2 (l,0)=some (l,z1,0):=by
 refine(CC (p:=(0:Int)=0) rfl).trans ?_
 cases l with
 |nil=>rfl
 |cons y r=>
  refine(rj (by simp only[List.length_cons];omega)).trans ?_
  refine(show zd (0:Int) (r.length+1) _=_ from zi (j:=0) (by omega)).trans ?_
  exact DQ (h y List.mem_cons_self)
theorem zms{r2:List Int×Int}{z1 z2:Int}{l:List Int}:sV (some r2) z1 z2 (1::l,0)=bif(!(decide (r2.2=(0:Int)))) then some (([]:List Int),(0:Int),r2.2) else bif decide (((List.length r2.1):Int)=(0:Int)) then some (([]:List Int),(0:Int),(8:Int)) else(bif(decide ((1:Int)<=(((List.length ((1:Int)::l)):Nat):Int))) then(bif(decide (((List.length ([]:List Int))+(List.length (List.drop ((1:Int)).toNat (List.take (List.length ((1:Int)::l)) ((1:Int)::l)))))*8<=140737488355328)) then(bif(decide (((List.length (([]:List Int)++(List.drop ((1:Int)).toNat (List.take (List.length ((1:Int)::l)) ((1:Int)::l)))))+(List.length r2.1))*8<=140737488355328)) then some (((([]:List Int)++(List.drop ((1:Int)).toNat (List.take (List.length ((1:Int)::l)) ((1:Int)::l))))++r2.1),z2,(0:Int)) else none) else none) else none):=by
 refine(CC (p:=(0:Int)=0) rfl).trans ?_
 refine(rj (by simp only[List.length_cons];omega)).trans ?_
 refine(show zd (0:Int) (l.length+1) _=_ from zi (j:=0) (by omega)).trans ?_
 exact CC (p:=(1:Int)=1) rfl
theorem Z5{z1 z2 e:Int}{l:List Int}(he:e≠0):sV (some ([],e)) z1 z2 (1::l,0)=some ([],0,e):=zms.trans (DQ he)
theorem Z6{z1 z2:Int}{l:List Int}:sV (some ([],0)) z1 z2 (1::l,0)=some ([],0,8):=zms.trans rfl
theorem Z4{z1 z2:Int}{l l2:List Int}(h:l2≠ [])(h1:l.length<=64)(h2:l2.length<=64):sV (some (l2,0)) z1 z2 (1::l,0)=some (l++l2,z2,0):=by
 have hlen:l2.length≠0:=fun e=>h (List.length_eq_zero_iff.1 e)
 refine zms.trans ?_
 refine(CC (p:=(0:Int)=0) rfl).trans ?_
 refine(rj (by dsimp only;omega)).trans ?_
 refine(rl (by simp only[List.length_cons];omega)).trans ?_
 have F8:List.drop ((1:Int)).toNat ((1:Int)::l)=l:=rfl
 simp only[List.take_length,F8,List.nil_append]
 refine(rl (by simp only[List.length_nil];omega)).trans ?_
 exact rl (by omega)
theorem afg{y:Nat}(hy:y<18446744073709551616)(hz:y≠0):pL y 65 64≠ []:=fun e=>hz (by
 have:(∀i,y.testBit i=false):=fun i=>by
  by_cases hi:i<64
  ·cases qd:y.testBit i with
   |false=>rfl
   |true=>
    have:((65+(63-i):Nat):Int)∈pL y 65 64:=by
     unfold pL
     exact List.mem_map.2 ⟨63-i,List.mem_filter.2 ⟨List.mem_range.2 (by omega),by rw[show 63-(63-i)=i by omega];exact qd⟩,rfl⟩
    rw[e] at this;cases this
  ·exact Nat.testBit_lt_two_pow (Nat.lt_of_lt_of_le hy (by rw[show(18446744073709551616:Nat)=2^64 from by decide];exact Nat.pow_le_pow_right (by decide) (by omega)))
 exact Nat.eq_of_testBit_eq fun i=>by rw[this i,Nat.zero_testBit])
theorem J9(style:Int)(b:ByteArray)(hb:b.size<=1099511627776)(m:Nat)(hm:m<=b.size)(hs:style=1\/style=2):((nW style b m (1:Int)).bind fun r1=>sV (nW style b ((m+c8 style:Nat):Int) (65:Int)) ((m+c8 style:Nat):Int) ((m+c8 style+c8 style:Nat):Int) r1)=some (eJ (match ia style b m with
 | .inl e=>ru e
 | .inr x=>if x<9223372036854775808 then(x,0,((m+c8 style:Nat):Int),0) else
   match ia style b (m+c8 style) with
   | .inl e=>ru e
   | .inr y=>if y=0 then ru 8 else(x-9223372036854775808,y,((m+c8 style+c8 style:Nat):Int),0))):=by
 have p1:=Jj style b m 1 hb hm hs (by decide)
 rw[show((1:Nat):Int)=1 from rfl] at p1
 refine(congrArg (fun z=>Option.bind z _) p1).trans ?_
 cases hT:ia style b m with
 |inl e=>exact(adi (PV hT)).trans (congrArg some (zgs (PV hT)).symm)
 |inr x=>
  obtain⟨hx,pP⟩:=LZ hs hT
  by_cases ap:x<9223372036854775808
  ·simp only[ap,if_true]
   have dN:elems x 0=pL x 1 64:=by rw[zm2,Jh,List.append_nil]
   exact(W6 ((Jg x hx).1 ap)).trans (congrArg some (by rw[HS,dN]))
  ·simp only[ap,if_false]
   have ph:=(Jg x hx).2 ap
   have p2:=Jj style b (m+c8 style) 65 hb (by omega) hs (by decide)
   rw[show((65:Nat):Int)=65 from rfl] at p2
   have dN:=zm2 (x-9223372036854775808)
   have m5:=BK (x-9223372036854775808) 1 64
   generalize x-9223372036854775808=x' at ph dN m5
   refine(congrArg (fun z=>sV z _ _ _) p2).trans ?_
   refine(congrArg (fun z=>sV _ _ _ (z,0)) ph).trans ?_
   cases hU:ia style b (m+c8 style) with
   |inl e=>exact(Z5 (PV hU)).trans (congrArg some (zgs (PV hU)).symm)
   |inr y=>
    obtain⟨hy,qj⟩:=LZ hs hU
    by_cases hz:y=0
    ·simp only[hz,if_true]
     have e0:xW 65 (.inr 0)=([],0):=by
      show(pL 0 65 64,(0:Int))=_
      rw[Jh]
     refine(congrArg (fun z=>sV (some z) _ _ _) e0).trans ?_
     exact Z6.trans (congrArg some (zgs (by decide)).symm)
    ·simp only[hz,if_false]
     exact(Z4 (afg hy hz) m5 (BK y 65 64)).trans (congrArg some (by rw[HS,dN]))
theorem Z7(style:Int)(b:ByteArray)(at_:Int)(hb:b.size<=1099511627776):tW style b at_=some (eJ (aU style b at_)):=by
 unfold tW RR aU
 by_cases h0:at_<0
 ·rw[zT h0,if_neg (fun h=>by omega)]
  by_cases h1:style=1<;>by_cases h2:style=2<;>simp [h1,h2,eJ,ru]
 by_cases h9:(b.size:Int)<at_
 ·rw[zF h0,zT h9,if_neg (fun h=>by omega)]
  by_cases h1:style=1<;>by_cases h2:style=2<;>simp [h1,h2,eJ,ru]
 obtain⟨m,rfl⟩:∃m:Nat,at_=m:=⟨at_.toNat,by omega⟩
 rw[zF h0,zF h9]
 have wr:∀z:Nat,z<=64->zW zI ((m:Int)+(z:Int))=((m+z:Nat):Int):=fun z hz=>by rw[zg (by omega) (by omega)];omega
 by_cases h1:style=1
 ·rw[zT h1,if_pos ⟨.inl h1,by omega,by omega⟩,Int.toNat_natCast]
  have hz:c8 style=16:=by rw[h1];rfl
  have:=J9 style b hb m (by omega) (.inl h1)
  rw[show m+c8 style+c8 style=m+32 by omega,hz,<-wr 16 (by decide),<-wr 32 (by decide)] at this
  rw[show m+c8 style+c8 style=m+32 by omega,hz,<-wr 16 (by decide),<-wr 32 (by decide)]
  exact this
 ·by_cases h2:style=2
  ·rw[zF h1,zT h2,if_pos ⟨.inr h2,by omega,by omega⟩,Int.toNat_natCast]
   have hz:c8 style=8:=by rw[h2];rfl
   have:=J9 style b hb m (by omega) (.inr h2)
   rw[show m+c8 style+c8 style=m+16 by omega,hz,<-wr 8 (by decide),<-wr 16 (by decide)] at this
   rw[show m+c8 style+c8 style=m+16 by omega,hz,<-wr 8 (by decide),<-wr 16 (by decide)]
   exact this
  ·rw[zF h1,zF h2,if_neg (fun h=>h.1.elim h1 h2)];rfl
theorem Hp(l:List Int)(base a:Nat):∀b,bk l base (a+b)=bk l base a*2^b+bk l (base+a) b
 |0=>by simp [bk]
 |b+1=>by
  rw[<-Nat.add_assoc,zcy,zcy,Hp l base a b,Nat.pow_succ,show base+(a+b)+1=base+a+b+1 by omega]
  generalize(if((base+a+b+1:Nat):Int)∈l then 1 else 0)=e
  rw[<-Nat.mul_assoc]
  omega
def dJ(l:List Int)(base n:Nat):List Int:=(List.range n).map fun j=>((bk l (base+8*j) 8:Nat):Int)
theorem ztp(l:List Int)(base n:Nat):dJ l base (n+1)=dJ l base n++ [((bk l (base+8*n) 8:Nat):Int)]:=by
 unfold dJ
 rw[List.range_succ,List.map_append];rfl
theorem Ho(l:List Int)(base:Nat):∀n,mi 0 (dJ l base n)=bk l base (8*n)
 |0=>rfl
 |n+1=>by
  rw[ztp,z107,Ho l base n,Int.toNat_natCast,show 8*(n+1)=8*n+8 by omega,Hp]
theorem ZW(l:List Int)(base:Nat):dJ l base 8=jA (bk l base 64):=by
 have h:=(Cj (l:=dJ l base 8) (by unfold dJ;rw[List.length_map,List.length_range]) fun y hy=>by
  unfold dJ at hy
  obtain⟨j,_,rfl⟩:=List.mem_map.1 hy
  have:=KI l (base+8*j) 8
  unfold zn
  omega).1
 rw[<-h]
 congr 1
 exact Ho l base 8
theorem zsd(l:List Int)(hl:l.length<=maxLen)(base i:Nat)(hi:i<8)(hb:base<=64)(t:List Int):∀(m k K:Nat),k+m=8->m<K->
 Cz K l ((base+1:Nat):Int) t (i:Int) ((bk l (base+8*i) k:Nat):Int) (k:Int)=some (l,((base+1:Nat):Int),t,(i:Int),((bk l (base+8*i) 8:Nat):Int))
 |m,k,0,_,hK=>by omega
 |0,k,K+1,hk,hK=>by
  have:k=8:=by omega
  subst this
  unfold Cz LM
  rw[zF (by omega)];rfl
 |m+1,k,K+1,hk,hK=>by
  have ih:=zsd l hl base i hi hb t m (k+1) K (by omega) (by omega)
  have e1:zW zI ((8:Int)*(i:Int))=((8*i:Nat):Int):=by rw[zg (by omega) (by omega)];omega
  have e2:zW zI (((base+1:Nat):Int)+((8*i:Nat):Int))=((base+1+8*i:Nat):Int):=by rw[zg (by omega) (by omega)];omega
  have e3:zW zI (((base+1+8*i:Nat):Int)+(k:Int))=((base+8*i+k+1:Nat):Int):=by rw[zg (by omega) (by omega)];omega
  have hw:=KI l (base+8*i) k
  have hp:2^k<=2^7:=Nat.pow_le_pow_right (by decide) (by omega)
  rw[show(2:Nat)^7=128 from rfl] at hp
  have hs:=zcy l (base+8*i) k
  have u1:zW zU (((bk l (base+8*i) k:Nat):Int)*2)=((2*bk l (base+8*i) k:Nat):Int):=by
   rw[show((bk l (base+8*i) k:Nat):Int)*2=((2*bk l (base+8*i) k:Nat):Int) by omega,z154,Nat.mod_eq_of_lt (by omega)]
  have u2:zW zU (((2*bk l (base+8*i) k:Nat):Int)+1)=((2*bk l (base+8*i) k+1:Nat):Int):=by
   rw[show((2*bk l (base+8*i) k:Nat):Int)+1=((2*bk l (base+8*i) k+1:Nat):Int) by omega,z154,Nat.mod_eq_of_lt (by omega)]
  unfold Cz LM
  rw[zT (by omega),zC,e1,e2,e3,ztq l _ hl,zc,u1,u2,zr (by omega)]
  by_cases hm:((base+8*i+k+1:Nat):Int)∈l
  ·rw[if_pos hm] at hs
   rw[zT hm,zC,<-hs]
   exact ih
  ·rw[if_neg hm] at hs
   replace hs:bk l (base+8*i) (k+1)=2*bk l (base+8*i) k:=hs
   rw[zF hm,zD,<-hs]
   exact ih
theorem zlz(l:List Int)(hl:l.length<=maxLen)(base:Nat)(hb:base<=64):∀(m i K:Nat),i+m=8->m<K->
 Cy K l ((base+1:Nat):Int) (dJ l base i) (i:Int)=some (dJ l base 8)
 |m,i,0,_,hK=>by omega
 |0,i,K+1,hi,hK=>by
  have:i=8:=by omega
  subst this
  unfold Cy LL
  rw[zF (by omega)];rfl
 |m+1,i,K+1,hi,hK=>by
  have h1:=zsd l hl base i (by omega) hb (dJ l base i) 8 0 ae (by omega) (by rw[zq];omega)
  rw[show bk l (base+8*i) 0=0 from rfl,show((0:Nat):Int)=0 from rfl] at h1
  have hlen:(dJ l base i).length=i:=by unfold dJ;rw[List.length_map,List.length_range]
  unfold Cy LL
  rw[zT (by omega),zC]
  dsimp only
  rw[h1,zc]
  unfold RW
  dsimp only
  rw[zT (by rw[hlen,List.length_singleton];omega),zC,zr (by omega),<-ztp]
  exact zlz l hl base hb m (i+1) K (by omega) (by omega)
theorem zce(l:List Int)(hl:l.length<=maxLen)(base:Nat)(hb:base<=64):sX l ((base+1:Nat):Int)=some (wB (bk l base 64)):=by
 unfold sX RV
 have:=zlz l hl base hb 8 0 ae (by omega) (by rw[zq];omega)
 rw[show dJ l base 0=[] from rfl,show((0:Nat):Int)=0 from rfl,ZW] at this
 dsimp only
 rw[this];rfl
theorem BJ(style:Int)(l:List Int)(hl:l.length<=maxLen):∀(m j K:Nat) (t:Bool),j+m=129->m<K->∃r:Bool,yw K style l t (j:Int)=some (style,l,r)/\(r=true↔t=true\/∃n:Nat,j<=n/\n<=128/\(n:Int)∈l)
 |m,j,0,t,_,hK=>by omega
 |0,j,K+1,t,hj,hK=>by
  refine⟨t,?_,⟨fun h=> .inl h,fun h=>h.elim id fun⟨n,h1,h2,_⟩=>by omega⟩⟩
  unfold yw LJ
  rw[zF (by omega)];rfl
 |m+1,j,K+1,t,hj,hK=>by
  unfold yw LJ
  rw[zT (by omega),zC,zr (by omega),ztq l _ hl,zc]
  cases t with
  |true=>
   obtain⟨r,h1,h2⟩:=BJ style l hl m (j+1) K true (by omega) (by omega)
   exact⟨r,h1,⟨fun _=> .inl rfl,fun _=>h2.2 (.inl rfl)⟩⟩
  |false=>
   obtain⟨r,h1,h2⟩:=BJ style l hl m (j+1) K (decide ((j:Int)∈l)) (by omega) (by omega)
   refine⟨r,h1,h2.trans ⟨fun h=> .inr ?_,fun h=> ?_⟩⟩
   ·rcases h with h|⟨n,n1,n2,n3⟩
    ·exact⟨j,Nat.le_refl _,by omega,of_decide_eq_true h⟩
    ·exact⟨n,by omega,n2,n3⟩
   ·rcases h with h|⟨n,n1,n2,n3⟩
    ·cases h
    ·by_cases e:n=j
     ·subst e;exact .inl (zT n3)
     ·exact .inr ⟨n,by omega,n2,n3⟩
theorem Zy(l:List Int):bI l=0↔¬∃n:Nat,65<=n/\n<=128/\(n:Int)∈l:=by
 have m6:∀n:Nat,65<=n->n<=128->bh (bz l) 0 (n:Int)=false:=fun n h1 h2=>by
  unfold bh
  rw[if_neg (by omega),if_pos (by omega),Nat.zero_testBit]
 constructor
 ·rintro h ⟨n,n1,n2,n3⟩
  have:=qq l n
  rw[h,m6 n n1 n2,zT n3] at this
  unfold fY at this
  rw[zT (by omega)] at this
  cases this
 ·intro h
  refine(Ls (lp l) (mr l) (lp l) (by decide:(0:Nat)<cz) fun n n1 n2=> ?_).2
  by_cases h64:n<=64
  ·unfold bh
   rw[if_pos ⟨n1,h64⟩,if_pos ⟨n1,h64⟩]
  ·obtain⟨m,rfl⟩:∃m:Nat,n=m:=⟨n.toNat,by omega⟩
   rw[m6 m (by omega) (by omega),qq,zF (fun hm=>h ⟨m,by omega,by omega,hm⟩)];rfl
theorem Kb(l:List Int):decide ((1:Int)∈l)= !decide (bz l<9223372036854775808):=by
 rw[<-I6 (l:=bI l) (lp l),qq]
 unfold fY
 rw[zT (p:=(1:Int)<=1/\(1:Int)<=128) (by decide),Bool.and_true]
theorem acV(l:List Int)(h:bz l<9223372036854775808):bz (1::l)=bz l+9223372036854775808:=by
 rw[<-Kc h]
 have ap:bz l|||9223372036854775808<cz:=oQ (lp l) (by decide)
 refine(Ls (lp (1::l)) (mr (1::l)) ap (mr l) fun n n1 n2=> ?_).1
 have hw:=HX (bz l) (bI l) 1 n
 rw[show gn 1=9223372036854775808 from by decide,show gu 1=0 from by decide,Nat.or_zero] at hw
 rw[hw,qq,qq]
 by_cases e:n=1
 ·subst e
  simp [fY]
 ·simp [e,Ne.symm e]
theorem aae(style:Int)(l:List Int)(hl:l.length<=1000000):EF style l=some ((b7 style (bz l) (bI l)).1,decide ((b7 style (bz l) (bI l)).2=0)):=by
 have qi:l.length<=maxLen:=by simp only[maxLen];omega
 have S7:([(1:Int)]++l).length<=maxLen:=by simp only[maxLen,List.length_append,List.length_singleton];omega
 obtain⟨r,eA,dZ⟩:=BJ style l qi 64 65 ae false (by omega) (by rw[zq];omega)
 rw[show((65:Nat):Int)=65 from rfl] at eA
 have hr:r= !decide (bI l=0):=by
  have:=(Zy l)
  by_cases h0:bI l=0
  ·rw[zT h0]
   cases r with
   |false=>rfl
   |true=>exact absurd ((dZ.1 rfl).elim (fun h=>by cases h) id) (this.1 h0)
  ·rw[zF h0]
   cases r with
   |true=>rfl
   |false=>
    have hex:∃n:Nat,65<=n/\n<=128/\(n:Int)∈l:=Classical.byContradiction fun h=>h0 (this.2 h)
    have:=dZ.2 (.inr hex)
    cases this
 have w1:sX l 1=some (wB (bz l)):=by
  have:=zce l qi 0 (by decide)
  rw[(zos l).1] at this;exact this
 have w2:sX l 65=some (wB (bI l)):=by
  have:=zce l qi 64 (by decide)
  rw[(zos l).2] at this;exact this
 have w3:sX ([(1:Int)]++l) 1=some (wB (bz (1::l))):=by
  have:=zce ([(1:Int)]++l) S7 0 (by decide)
  rw[(zos ([(1:Int)]++l)).1] at this;exact this
 have fin:∀t:ByteArray,t.size<=16->(bif decide (style=1) then(tR t).bind fun r6=>some (r6,true) else some (t,true))=some (cD style t,true):=fun t ht=>by
  unfold cD
  by_cases hs:style=1
  ·rw[zT hs,zC,Hu t (by omega),if_pos hs];rfl
  ·rw[zF hs,if_neg hs];rfl
 have main:(style=1\/style=2)->((tT l (1:Int)).bind fun r1=>(bif r1 then some (bs [],false) else((yw ae style l false (65:Int)).bind fun e=>LK e.1 e.2.1 e.2.2 (fun a0 a1=>some (a0,a1)))))=some ((b7 style (bz l) (bI l)).1,decide ((b7 style (bz l) (bI l)).2=0)):=fun hs=>by
  rw[ztq l _ qi,zc,Kb]
  by_cases h2:bz l<9223372036854775808
  case neg=>
   rw[zF h2,Bool.not_false,zC]
   unfold b7
   rw[if_neg (fun h=>h2 h.2)];rfl
  rw[zT h2,Bool.not_true,zD,eA,zc,Nn hs h2]
  unfold LK
  dsimp only
  rw[w1,zc,hr]
  by_cases hz:bI l=0
  ·rw[zT hz,Bool.not_true,zD,if_pos hz]
   exact fin (wB _) (by rw[qs];decide)
  ·rw[zF hz,Bool.not_false,zC,if_neg hz,zT (by simp only[List.length_singleton];omega),zC,w3,zc,w2,zc,zT (by rw[qs,qs];decide),zC,acV l h2,<-zm4]
   exact fin (wB _++wB _) (by rw[zu,qs,qs];decide)
 unfold EF DG
 by_cases h1:style=1
 ·rw[zT h1]
  exact main (.inl h1)
 ·rw[zF h1]
  by_cases h2:style=2
  ·rw[zT h2]
   exact main (.inr h2)
  ·rw[zF h2]
   unfold b7
   rw[if_neg (fun h=>h.1.elim h1 h2)];rfl
def fI(m:ByteArray):Bool:=decide ((m.size:Int)=4)&&aX (bl m)
theorem nq{m:ByteArray}:fI m=true↔m.size=4/\aX (bl m)=true:=by
 unfold fI
 rw[Bool.and_eq_true,decide_eq_true_eq]
 constructor<;>intro h<;>exact⟨by omega,h.2⟩
theorem z9w(m:ByteArray)(h:m.size<=maxLen):mO m=some (fI m):=by
 unfold mO On fI
 cases decide ((m.size:Int)=4) with
 |false=>rfl
 |true=>rw[zC,Qb m h];rfl
theorem zs5(m:ByteArray)(h:m.size<=maxLen):jK m=some (fI m):=by
 unfold jK NG fI
 cases decide ((m.size:Int)=4) with
 |false=>rfl
 |true=>rw[zC,zmr m h];rfl
theorem DR{m:ByteArray}(h:fI m=true)(i:Nat)(hi:i<4):48<=ze m i/\ze m i<=57:=by
 obtain⟨h1,h2⟩:=nq.1 h
 have hl:i<(bl m).length:=by rw[zh];omega
 have:=List.all_eq_true.1 h2 _ (List.getElem_mem hl)
 rw[mC,List.getD_eq_getElem?_getD,List.getElem?_eq_getElem hl]
 exact of_decide_eq_true this
def dk(m:ByteArray):Int:=bif fI m then ze m 0-48 else 0
def eD(m:ByteArray):Bool:=fI m&&(decide (ze m 2=48)||decide (ze m 2=50))
theorem MX(m:ByteArray)(h:m.size<=maxLen):iw m=some (dk m,fI m):=by
 unfold iw Oo dk
 rw[z9w m h,Option.bind_some]
 cases hr:fI m with
 |false=>rfl
 |true=>
  obtain⟨h1,_⟩:=nq.1 hr
  have:=DR hr 0 (by omega)
  simp only[Bool.not_true,zD,zC]
  rw[zm (by omega) (by omega),show(0:Int).toNat=0 from rfl,sK (by omega) (by omega),zg (by omega) (by omega)]
theorem zc0(m:ByteArray)(h:m.size<=maxLen):mN m=some (eD m):=by
 unfold mN Ol eD
 rw[z9w m h,Option.bind_some]
 cases hr:fI m with
 |false=>rfl
 |true=>
  obtain⟨h1,_⟩:=nq.1 hr
  rw[zC,zm (by omega) (by omega),zm (by omega) (by omega),show(2:Int).toNat=2 from rfl]
  cases decide (ze m 2=48)<;>rfl
def mj(m:ByteArray)(v:Int):Bool:=fI m&&decide (ze m 0-48=v)
def yD(p:bK)(a b:zf):Bool:=mj p.1 a.2.1&&(mj p.2.1 b.2.1&&(eD p.1==eD p.2.1))
theorem ac5(p:bK)(a b:zf)(h1:p.1.size<=maxLen)(h2:p.2.1.size<=maxLen):mU p a b=some (yD p a b):=by
 unfold mU PR yD mj
 rw[MX _ h1,MX _ h2,zc0 _ h1,zc0 _ h2]
 simp only[Option.bind_some]
 unfold dk
 cases fI p.1 with
 |false=>rfl
 |true=>
  cases fI p.2.1 with
  |false=>simp
  |true=>
   simp only[zC,Bool.true_and]
   cases decide (ze p.1 0-48=a.2.1) with
   |false=>rfl
   |true=>
    cases decide (ze p.2.1 0-48=b.2.1) with
    |false=>rfl
    |true=>rfl
abbrev aZ:=ByteArray×List aO×Unit
abbrev bA:=Int×Int×Unit
abbrev gY:aO:=(0,bs [],())
abbrev zw:bA:=(0,0,())
structure dm(m:aZ):Prop where
 oN:m.1.size<=9223372036854775807
 len:m.2.1.length<=1000000
 mh:∀v∈m.2.1,v.2.1.size<=1099511627776
def dV(l:List aO)(no:Int):List aO:=l.filter fun v=> !decide (v.1=no)
theorem zyw(l:List aO)(no:Int):(dV l no).length<=l.length:=List.length_filter_le _ _
theorem z9y(no:Int)(fin:aZ×aZ->Option (aZ×aZ)):∀(l:List aO) (i:Int) (s:aZ×aZ),s.2.2.1.length+l.length<=1000000000->
 bc (fun i (x:aO) (s:aZ×aZ) K=>(bif(!(decide (x.1=no))) then(bif(decide ((s.2.2.1.length+(List.length ([x]:List aO)))*24<=140737488355328)) then K (s.1,(s.2.1,(s.2.2.1++([x]:List aO)),())) else none) else K s)) fin l i s=fin (s.1,(s.2.1,s.2.2.1++dV l no,()))
 | [],i,s,_=>by
   show fin s=_
   simp [dV]
 |x::r,i,s,h=>by
  simp only[List.length_cons] at h
  rw[bc]
  by_cases hx:x.1=no
  ·rw[zT hx,Bool.not_true,zD]
   refine(z9y no fin r (i+1) s (by omega)).trans ?_
   simp [dV,hx]
  ·rw[zF hx,Bool.not_false,zC,zT (by simp only[List.length_singleton];omega),zC]
   refine(z9y no fin r (i+1) (s.1,(s.2.1,s.2.2.1++ [x],())) (by simp only[List.length_append,List.length_singleton];omega)).trans ?_
   simp [dV,hx]
theorem VP(m:aZ)(no:Int)(h:m.2.1.length<=1000000):qI m no=some (m.1,dV m.2.1 no,()):=by
 unfold qI Ok
 dsimp only
 have:=cm gY m.2.1 (by rw[zj];omega) (fun i (x:aO) (s:aZ×aZ) K=>(bif(!(decide (x.1=no))) then(bif(decide ((s.2.2.1.length+(List.length ([x]:List aO)))*24<=140737488355328)) then K (s.1,(s.2.1,(s.2.2.1++([x]:List aO)),())) else none) else K s)) (fun s=>some s)
  (fun k i s=>KZ k no m.2.1 (m.2.1.length:Int) i s.1 s.2) (fun k i s=>rfl) ((bs [],[],()),(m.1,[],()))
 rw[this,z9y no _ _ _ _ (by simp;omega)]
 rfl
def bO(no:Int):List aO->Int->Int
 | [],_=> -1
 |x::r,i=>if no<x.1 then i else bO no r (i+1)
theorem Ks(no:Int):∀(l:List aO) (i:Int),0<=i->(bO no l i= -1/\∀x∈l,x.1<=no)\/(i<=bO no l i/\bO no l i<i+l.length)
 | [],i,h=> .inl ⟨rfl,fun x hx=>by cases hx⟩
 |x::r,i,h=>by
  unfold bO
  by_cases hx:no<x.1
  ·rw[if_pos hx];right;simp only[List.length_cons];omega
  ·rw[if_neg hx]
   rcases Ks no r (i+1) (by omega) with⟨h1,h2⟩|h1
   ·left
    refine⟨h1,fun y hy=> ?_⟩
    rcases List.mem_cons.1 hy with rfl|hy
    ·omega
    ·exact h2 y hy
   ·right;simp only[List.length_cons];omega
def SI(r no:Int):Sum (Int×Int) Int:=bif decide (r<0) then .inr no else .inl (r,no)
theorem zzf(no:Int):∀(l:List aO) (i:Int),0<=i->bc (fun i (x:aO) (s:Int) K=>((qH x s).bind fun r1=>(bif r1.1 then some (Sum.inl (i,r1.2)) else K r1.2))) (fun s=>some (Sum.inr s)) l i no=some (SI (bO no l i) no)
 | [],i,h=>rfl
 |x::r,i,h=>by
  rw[bc,bO]
  show(bif decide (no<x.1) then some (Sum.inl (i,no)) else bc _ _ r (i+1) no)=_
  by_cases hx:no<x.1
  ·rw[zT hx,zC,if_pos hx]
   unfold SI
   rw[zF (by omega)];rfl
  ·rw[zF hx,zD,if_neg hx]
   exact zzf no r (i+1) (by omega)
theorem Wl(l:List aO)(no:Int)(h:l.length<=1000000):qU l no=some (bO no l 0,no):=by
 unfold qU O7
 dsimp only
 have:=cm gY l (by rw[zj];omega) (fun i (x:aO) (s:Int) K=>((qH x s).bind fun r1=>(bif r1.1 then some (Sum.inl (i,r1.2)) else K r1.2))) (fun s=>some (Sum.inr s))
  (fun k i s=>La k l (l.length:Int) i s) (fun k i s=>rfl) no
 rw[this,zzf no l 0 (Int.le_refl _),zc]
 unfold SI
 rcases Ks no l 0 (Int.le_refl _) with⟨h1,_⟩|h1
 ·rw[h1];rfl
 ·rw[zF (by omega)];rfl
theorem Zv(old:List aO)(at_:Nat)(v d:aO)(h:at_<=old.length):
 bE (List.set (bE (List.replicate (old.length+1) d) (List.take (old.length+1) (List.drop 0 (List.take at_ old))) 0) at_ v) (List.take (old.length+1-(at_+1)) (List.drop at_ (List.take old.length old))) (at_+1)=old.take at_++v::old.drop at_:=by
 have e1:List.take (old.length+1) (List.drop 0 (List.take at_ old))=old.take at_:=by
  rw[List.drop_zero,List.take_take,Nat.min_eq_right (by omega)]
 have e2:List.take (old.length+1-(at_+1)) (List.drop at_ (List.take old.length old))=old.drop at_:=by
  rw[List.take_length,List.take_of_length_le (by rw[List.length_drop];omega)]
 rw[e1,e2]
 have hl:(old.take at_).length=at_:=by rw[List.length_take];omega
 have e3:bE (List.replicate (old.length+1) d) (old.take at_) 0=old.take at_++List.replicate (old.length+1-at_) d:=by
  unfold bE
  rw[List.take_zero,List.nil_append,hl,Nat.zero_add,List.drop_replicate]
 obtain⟨n,hn⟩:∃n,old.length+1-at_=n+1:=⟨old.length-at_,by omega⟩
 have e4:List.set (old.take at_++List.replicate (old.length+1-at_) d) at_ v=old.take at_++v::List.replicate n d:=by
  rw[hn,List.replicate_succ,List.set_append,if_neg (by omega),hl,Nat.sub_self,List.set_cons_zero]
 rw[e3,e4]
 unfold bE
 have e5:(old.take at_++v::List.replicate n d).take (at_+1)=old.take at_++ [v]:=by
  rw[List.take_append,hl,show at_+1-at_=1 by omega,List.take_of_length_le (by omega)];rfl
 have e6:(old.take at_++v::List.replicate n d).drop (at_+1+(old.drop at_).length)=[]:=by
  apply List.drop_eq_nil_of_le
  rw[List.length_append,hl,List.length_cons,List.length_replicate,List.length_drop]
  omega
 rw[e5,e6,List.append_nil,List.append_assoc]
 rfl
theorem Hn(q t:ByteArray)(no:Int)(old:List aO)(at_:Nat)(h:at_<=old.length)(hl:old.length<=1000000):
 (bif(decide ((zW zI (((List.length old):Int)+(1:Int)))=(zW zI (((List.length old):Int)+(1:Int))))) then(bif(decide ((0:Int)<=(zW zI (((List.length old):Int)+(1:Int))))) then(bif(decide ((zW zI (((List.length old):Int)+(1:Int)))*24<=140737488355328)) then(bif(decide ((0:Int)<=((at_:Nat):Int))) then(bif(decide (((at_:Nat):Int)<=(((List.length old):Nat):Int))) then(bif(Nat.beq ((zW zI (((List.length old):Int)+(1:Int)))).toNat (List.length (List.replicate ((zW zI (((List.length old):Int)+(1:Int)))).toNat ((0:Int),(bs []),())))) then(zd ((at_:Nat):Int) ((zW zI (((List.length old):Int)+(1:Int)))).toNat (bif(Nat.ble ((((at_:Nat):Int)).toNat+1) (List.length (bE (List.replicate ((zW zI (((List.length old):Int)+(1:Int)))).toNat ((0:Int),(bs []),())) (List.take ((zW zI (((List.length old):Int)+(1:Int)))).toNat (List.drop 0 (List.take (((at_:Nat):Int)).toNat old))) 0))) then(bif(decide ((0:Int)<=(zW zI (((at_:Nat):Int)+(1:Int))))) then(bif(decide ((zW zI (((at_:Nat):Int)+(1:Int)))<=((((zW zI (((List.length old):Int)+(1:Int)))).toNat:Nat):Int))) then(bif(decide ((0:Int)<=((at_:Nat):Int))) then(bif(decide (((at_:Nat):Int)<=(((List.length old):Nat):Int))) then(bif(Nat.beq ((zW zI (((List.length old):Int)+(1:Int)))).toNat (List.length (List.set (bE (List.replicate ((zW zI (((List.length old):Int)+(1:Int)))).toNat ((0:Int),(bs []),())) (List.take ((zW zI (((List.length old):Int)+(1:Int)))).toNat (List.drop 0 (List.take (((at_:Nat):Int)).toNat old))) 0) (((at_:Nat):Int)).toNat (no,t,())))) then(bif(Nat.ble ((zW zI (((at_:Nat):Int)+(1:Int)))).toNat ((zW zI (((List.length old):Int)+(1:Int)))).toNat) then(bif(Nat.beq ((zW zI (((List.length old):Int)+(1:Int)))).toNat (List.length (bE (List.set (bE (List.replicate ((zW zI (((List.length old):Int)+(1:Int)))).toNat ((0:Int),(bs []),())) (List.take ((zW zI (((List.length old):Int)+(1:Int)))).toNat (List.drop 0 (List.take (((at_:Nat):Int)).toNat old))) 0) (((at_:Nat):Int)).toNat (no,t,())) (List.take (((zW zI (((List.length old):Int)+(1:Int)))).toNat-((zW zI (((at_:Nat):Int)+(1:Int)))).toNat) (List.drop (((at_:Nat):Int)).toNat (List.take (List.length old) old))) ((zW zI (((at_:Nat):Int)+(1:Int)))).toNat))) then(some (q,(bE (List.set (bE (List.replicate ((zW zI (((List.length old):Int)+(1:Int)))).toNat ((0:Int),(bs []),())) (List.take ((zW zI (((List.length old):Int)+(1:Int)))).toNat (List.drop 0 (List.take (((at_:Nat):Int)).toNat old))) 0) (((at_:Nat):Int)).toNat (no,t,())) (List.take (((zW zI (((List.length old):Int)+(1:Int)))).toNat-((zW zI (((at_:Nat):Int)+(1:Int)))).toNat) (List.drop (((at_:Nat):Int)).toNat (List.take (List.length old) old))) ((zW zI (((at_:Nat):Int)+(1:Int)))).toNat),())) else none) else none) else none) else none) else none) else none) else none) else none)) else none) else none) else none) else none) else none) else none)=some (q,old.take at_++(no,t,())::old.drop at_,()):=by
 have w1:zW zI ((old.length:Int)+1)=((old.length+1:Nat):Int):=zr (by omega)
 have w2:zW zI ((at_:Int)+1)=((at_+1:Nat):Int):=zr (by omega)
 simp only[w1,w2,Int.toNat_natCast]
 have key:=Zv old at_ (no,t,()) ((0:Int),bs [],()) h
 have l1:(bE (List.replicate (old.length+1) ((0:Int),(bs []),())) (List.take (old.length+1) (List.drop 0 (List.take at_ old))) 0).length=old.length+1:=by
  unfold bE;simp;omega
 have l2:(old.take at_++(no,t,())::old.drop at_).length=old.length+1:=by
  rw[List.length_append,List.length_take,List.length_cons,List.length_drop];omega
 have d2:decide ((0:Int)<=((old.length+1:Nat):Int))=true:=zT (by omega)
 have d3:decide (((old.length+1:Nat):Int)*24<=140737488355328)=true:=zT (by omega)
 have d4:decide ((0:Int)<=(at_:Int))=true:=zT (by omega)
 have d5:decide ((at_:Int)<=(old.length:Int))=true:=zT (by omega)
 have d9:decide ((0:Int)<=((at_+1:Nat):Int))=true:=zT (by omega)
 have d10:decide (((at_+1:Nat):Int)<=((old.length+1:Nat):Int))=true:=zT (by omega)
 have b1:Nat.ble (at_+1) (old.length+1)=true:=Nat.ble_eq_true_of_le (by omega)
 have hw:∀{R:Type} (x:Option R),zd (at_:Int) (old.length+1) x=x:=fun x=>zi (by omega)
 simp only[decide_true,zC,d2,d3,d4,d5,List.length_replicate,Nat.beq_refl,hw,l1,b1,d9,d10,List.length_set,key,l2]
def kP(l:List aO)(no:Int)(t:ByteArray):List aO:=
 bif decide (bO no l 0<0) then l++ [(no,t,())] else l.take (bO no l 0).toNat++(no,t,())::l.drop (bO no l 0).toNat
def dv(m:aZ)(no:Int)(t:ByteArray):aZ:=(m.1,kP (dV m.2.1 no) no t,())
theorem Nk(m:aZ)(no:Int)(t:ByteArray)(h:m.2.1.length<=1000000):gi m no t=some (dv m no t):=by
 unfold gi Oi dv
 have hl:=zyw m.2.1 no
 rw[VP m no h,zc]
 dsimp only
 generalize dV m.2.1 no=old at*
 rw[Wl old no (by omega),zc]
 dsimp only
 unfold kP
 rcases Ks no old 0 (Int.le_refl _) with⟨h1,_⟩|h1
 ·rw[h1,zT (by omega:(-1:Int)<0),zC,zC]
  refine(Hn m.1 t no old old.length (Nat.le_refl _) (by omega)).trans ?_
  rw[List.take_length,List.drop_length]
 ·rw[zF (by omega:¬bO no old 0<0),zD,zD]
  obtain⟨n,hn⟩:∃n:Nat,bO no old 0=n:=⟨(bO no old 0).toNat,by omega⟩
  rw[hn]
  refine(Hn m.1 t no old n (by omega) (by omega)).trans ?_
  rw[Int.toNat_natCast]
def oW(s:zf):List aO->Int->Option bA
 | [],_=>none
 |x::r,last=>bif decide (x.1<=last) then some (11,x.1,()) else bif !bp s x.1 then some (9,x.1,()) else bif !decide (aY (aN s x.1) x.2.1=0) then some (aY (aN s x.1) x.2.1,x.1,()) else oW s r x.1
def P1(o:Option bA):Option (Sum bA bA):=some (match o with
 |some f=> .inl f
 |none=> .inr zw)
theorem zck(s:zf)(hs:s.2.2.1.length<=maxLen):∀(l:List aO) (i last:Int),(∀v∈l,v.2.1.size<=1099511627776)->
 bc (fun i (x:aO) (t9:Int) K=>(bif(decide (x.1<=t9)) then some (Sum.inl ((11:Int),x.1,())) else((eP s x.1).bind fun r3=>(bif(!r3.2) then some (Sum.inl ((9:Int),x.1,())) else((bB r3.1 x.2.1).bind fun r4=>(bif(!(decide (r4=(0:Int)))) then some (Sum.inl (r4,x.1,())) else K x.1)))))) (fun _=>some (Sum.inr zw)) l i last=P1 (oW s l last)
 | [],i,last,_=>rfl
 |x::r,i,last,h=>by
  rw[bc,oW,vG s _ hs,zc]
  cases decide (x.1<=last) with
  |true=>rfl
  |false=>
   rw[zD,zD]
   dsimp only
   cases bp s x.1 with
   |false=>rfl
   |true=>
    rw[Bool.not_true,zD,zD,te _ _ (h x List.mem_cons_self),zc]
    cases decide (aY (aN s x.1) x.2.1=0) with
    |false=>rfl
    |true=>
     rw[Bool.not_true,zD,zD]
     exact zck s hs r (i+1) x.1 (fun v hv=>h v (List.mem_cons_of_mem _ hv))
def eU(s:zf)(m:aZ):bA:=
 bif !decide ((gd s).1=0) then(1,-1,()) else bif !fI m.1 then(7,0,()) else bif !decide (dk m.1=s.2.1) then(7,0,()) else match oW s m.2.1 0 with
  |some f=>f
  |none=>zw
theorem zmf(s:zf)(m:aZ)(hs:s.2.2.1.length<=maxLen)(h:dm m):pg s m=some (eU s m):=by
 unfold pg Oc eU
 rw[KD s hs,zc,MX m.1 (by rw[zj];exact h.oN),zc]
 cases decide ((gd s).1=0) with
 |false=>rfl
 |true=>
  rw[Bool.not_true,zD,zD]
  dsimp only
  cases fI m.1 with
  |false=>rfl
  |true=>
   rw[Bool.not_true,zD,zD]
   cases decide (dk m.1=s.2.1) with
   |false=>rfl
   |true=>
    rw[Bool.not_true,zD,zD]
    have hl:=h.len
    have:=cm gY m.2.1 (by rw[zj];omega) (fun i (x:aO) (t9:Int) K=>(bif(decide (x.1<=t9)) then some (Sum.inl ((11:Int),x.1,())) else((eP s x.1).bind fun r3=>(bif(!r3.2) then some (Sum.inl ((9:Int),x.1,())) else((bB r3.1 x.2.1).bind fun r4=>(bif(!(decide (r4=(0:Int)))) then some (Sum.inl (r4,x.1,())) else K x.1)))))) (fun _=>some (Sum.inr zw))
     (fun k i t9=>KV k t9 m.2.1 (m.2.1.length:Int) i s zw) (fun k i t9=>rfl) 0
    rw[this,zck s hs _ _ _ h.mh]
    unfold P1
    cases oW s m.2.1 0<;>rfl
theorem Vi(s:zf)(m:aZ)(hs:s.2.2.1.length<=maxLen)(h:dm m)(last:Int):tw ae last 0 s m zw=P1 (oW s m.2.1 last):=by
 have hl:=h.len
 rw[<-zck s hs m.2.1 0 last h.mh]
 refine l5 gY m.2.1 (by rw[zj];omega) (fun i (x:aO) (t9:Int) K=>(bif(decide (x.1<=t9)) then some (Sum.inl ((11:Int),x.1,())) else((eP s x.1).bind fun r3=>(bif(!r3.2) then some (Sum.inl ((9:Int),x.1,())) else((bB r3.1 x.2.1).bind fun r4=>(bif(!(decide (r4=(0:Int)))) then some (Sum.inl (r4,x.1,())) else K x.1)))))) (fun _=>some (Sum.inr zw))
  (fun k i t9=>tw k t9 i s m zw) (fun k i t9 h0 h1=> ?_) (fun k t9=> ?_) last
 ·show tw (k+1) t9 i s m zw=_
  conv=>lhs;unfold tw KL
  rw[zT h1,zC,zm h0 h1]
  have hx:(List.getD m.2.1 i.toNat ((0:Int),bs [],()))∈m.2.1:=by
   rw[List.getD_eq_getElem?_getD,List.getElem?_eq_getElem (by omega)]
   exact List.getElem_mem _
  show _=(bif(decide ((List.getD m.2.1 i.toNat ((0:Int),bs [],())).1<=t9)) then _ else _)
  generalize hxx:(List.getD m.2.1 i.toNat ((0:Int),bs [],()))=x at*
  cases decide (x.1<=t9) with
  |true=>rfl
  |false=>
   rw[zD,zD,zd4 s _ hs,zc,vG s _ hs,zc]
   rcases zgw s x.1 with⟨i1,i2,i3⟩|⟨i1,i2,i3,i4⟩
   ·rw[i1,i2,zT (by omega:(-1:Int)<0)];rfl
   ·rw[zF (by omega:¬fX s.2.2.1 x.1 0<0),zD,i3,Bool.not_true,zD,zm i1 i2,zm h0 h1,i4,BO _ _ (h.mh x hx),zc,te _ _ (h.mh x hx),zc]
 ·show tw (k+1) t9 m.2.1.length s m zw=_
  conv=>lhs;unfold tw KL
  rw[zF (by omega),zD]
theorem Wh(s:zf)(m:aZ)(hs:s.2.2.1.length<=maxLen)(h:dm m):qy s m=some (eU s m):=by
 unfold qy NI eU
 rw[zs4 s hs,zc,zs5 m.1 (by rw[zj];exact h.oN),zc]
 cases decide ((gd s).1=0) with
 |false=>rfl
 |true=>
  rw[Bool.not_true,zD,zD]
  cases hr:fI m.1 with
  |false=>rfl
  |true=>
   obtain⟨r1,_⟩:=nq.1 hr
   have hd:=DR hr 0 (by omega)
   rw[Bool.not_true,zD,zD,zm (by omega) (by omega)]
   have hv:dk m.1=ze m.1 0-48:=by unfold dk;rw[hr];rfl
   have e1:zW zI (ze m.1 0)=ze m.1 0:=zg (by omega) (by omega)
   rw[show((0:Int)).toNat=0 from rfl,e1,zg (by omega) (by omega),<-hv]
   cases decide (dk m.1=s.2.1) with
   |false=>rfl
   |true=>
    rw[Bool.not_true,zD,zD]
    dsimp only
    rw[Vi s m hs h 0]
    unfold P1
    cases oW s m.2.1 0<;>rfl
theorem afb{a b:aZ}:a=b↔a.1=b.1/\a.2.1=b.2.1:=⟨fun h=>by rw[h];exact⟨rfl,rfl⟩,fun h=>Prod.ext h.1 (Prod.ext h.2 rfl)⟩
abbrev Map:=List bK×List aS×Unit
structure eE(m:Map):Prop where
 vl:ej m.1
 len:m.2.1.length<=1000000
 rules:∀r∈m.2.1,gP r
def fp(a b:zf):List ByteArray->List bK->Int->Option (Int×Int)
 |_,[],_=>none
 |seen,p::r,i=>if yD p a b=true then(if p.1∈seen then some (10,i) else fp a b (seen++ [p.1]) r (i+1)) else some (7,i)
abbrev Xr:=Sum (Int×Int×Int×Map×zf×zf) (Map×zf×zf)
def sn(m:Map)(a b:zf)(o:Option (Int×Int)):Option Xr:=some (match o with
 |some e=> .inl (e.1,2,e.2,m,a,b)
 |none=> .inr (m,a,b))
theorem H7(m:Map)(a b:zf):∀(l:List bK) (i:Int) (seen:List ByteArray),(∀p∈l,p.1.size<=1099511627776/\p.2.1.size<=1099511627776)->
 bc (fun i (x:bK) (s:List hJ) K=>((mU x a b).bind fun r2=>(bif(!r2) then some (Sum.inl ((7:Int),(2:Int),i,m,a,b)) else(bif ea (ff .str) false s x.1 then some (Sum.inl ((10:Int),(2:Int),i,m,a,b)) else(bif eb (ff .str) s x.1 then none else K (s++ [(x.1,true)])))))) (fun _=>some (Sum.inr (m,a,b))) l i (de seen)=sn m a b (fp a b seen l i)
 | [],i,seen,_=>rfl
 |p::r,i,seen,h=>by
  obtain⟨h1,h2⟩:=h p List.mem_cons_self
  simp only[bc,fp]
  rw[ac5 p a b (by rw[zj];omega) (by rw[zj];omega),Option.bind_some]
  cases yD p a b with
  |false=>rw[if_neg (by simp)];rfl
  |true=>
   rw[if_pos rfl]
   simp only[Bool.not_true,zD]
   have e1:=Nb (ff .str) (fun _ _=>rfl) p.1 seen
   have e2:=Nc (ff .str) (fun _ _=>rfl) p.1 seen
   by_cases hm:p.1∈seen
   ·rw[e1.2 hm,if_pos hm];rfl
   ·rw[C6 e1 hm,C6 e2 hm,if_neg hm,zD,zD,z95]
    exact H7 m a b r (i+1) (seen++ [p.1]) fun q hq=>h q (List.mem_cons_of_mem _ hq)
theorem Zg(m:Map)(a b:zf)(h:ej m.1):Dn ae m.1 (m.1.length:Int) 0 m a b []=sn m a b (fp a b [] m.1 0):=by
 have hl:=h.len
 have:=cm ju m.1 (by rw[zj];omega) (fun i (x:bK) (s:List hJ) K=>((mU x a b).bind fun r2=>(bif(!r2) then some (Sum.inl ((7:Int),(2:Int),i,m,a,b)) else(bif ea (ff .str) false s x.1 then some (Sum.inl ((10:Int),(2:Int),i,m,a,b)) else(bif eb (ff .str) s x.1 then none else K (s++ [(x.1,true)])))))) (fun _=>some (Sum.inr (m,a,b)))
  (fun k i s=>Dn k m.1 (m.1.length:Int) i m a b s) (fun k i s=>rfl) []
 rw[this]
 exact H7 m a b m.1 0 [] h.sz
def lq(x y:aS):Bool:=(!decide (x.2.1=0)&&decide (x.2.1=y.2.1))||(!decide (x.2.2.1=0)&&decide (x.2.2.1=y.2.2.1))
def z40(a b:zf):List aS->List aS->Int->Option (Int×Int)
 |_,[],_=>none
 |prev,r::l,i=>if dF r a b=0 then(if prev.any (fun q=>lq q r)=true then some (10,i) else z40 a b (prev++ [r]) l (i+1)) else some (dF r a b,i)
def Kh(o:Option (Int×Int)):Option (Sum lJ Unit):=some (match o with
 |some e=> .inl (e.1,3,e.2)
 |none=> .inr ())
def dC(m:Map)(a b:zf):Int×Int×Int:=
 if(gd a).1=0 then(if(gd b).1=0 then(if 256<m.1.length then(5,2,256) else match fp a b [] m.1 0 with
  |some e=>(e.1,2,e.2)
  |none=>if 256<m.2.1.length then(5,3,256) else match z40 a b [] m.2.1 0 with
   |some e=>(e.1,3,e.2)
   |none=>(0,0,0)) else(1,1,1)) else(1,1,0)
theorem zzv(l:List Int)(f:Int):bz (l++ [f])=bz l|||bz [f]:=by simp [bz,List.foldl_append]
theorem zzw(l:List Int)(f:Int):bI (l++ [f])=bI l|||bI [f]:=by simp [bI,List.foldl_append]
theorem zyj(fs:List Int)(f:Int):(bz fs&&&bz [f]=0/\bI fs&&&bI [f]=0)↔¬(f∈fs/\fY f=true):=by
 constructor
 ·rintro⟨h1,h2⟩ ⟨h3,h4⟩
  have:=I5 (bz fs) (bI fs) (bz [f]) (bI [f]) f
  rw[h1,h2,zz9,qq,qq,h4] at this
  simp [h3] at this
 ·intro h
  refine Ls (JW (lp fs)) (JW (mr fs)) (by decide) (by decide) fun n _ _=> ?_
  rw[zz9,I5,qq,qq]
  by_cases e:n=f
  ·subst e
   cases hr:fY n with
   |false=>simp
   |true=>
    have:n∉fs:=fun hm=>h ⟨hm,hr⟩
    simp [this]
  ·simp [e]
theorem Iv(x y:Nat):(decide (((x:Nat):Int)=0)&&(decide (((y:Nat):Int)=0)&&true))=decide (x=0/\y=0):=by
 rw[Bool.and_true,<-Bool.decide_and]
 exact decide_eq_decide.2 (by omega)
theorem zst{s:zf}(h:gh s){no:Int}(hh:bp s no=true):fY no=true:=by
 unfold bp fg at hh
 obtain⟨x,hx⟩:=Option.isSome_iff_exists.1 hh
 have h1:=List.find?_some hx
 have h2:=List.mem_of_find?_eq_some hx
 have h3:=Nv (h.2.2.2.1 x h2)
 have h4:x.1=no:=of_decide_eq_true h1
 unfold fY
 exact zT (by omega)
theorem WW{r:aS}{a b:zf}(h:dF r a b=0):eH r a b=false:=by
 unfold dF at h
 cases hc:(decide (r.1<1)||decide ((5:Int)<r.1)) with
 |true=>rw[hc] at h;simp at h
 |false=>
  rw[hc] at h
  cases he:eH r a b with
  |false=>rfl
  |true=>rw[he] at h;simp at h
theorem acU{r:aS}{a b:zf}(ha:gh a)(hb:gh b)(h:dF r a b=0):(r.2.1≠0->fY r.2.1=true)/\(r.2.2.1≠0->fY r.2.2.1=true):=by
 have he:=WW h
 unfold eH at he
 rw[Bool.or_eq_false_iff] at he
 refine⟨fun hz=> ?_,fun hz=> ?_⟩
 ·by_cases k:r.1=3
  ·rw[zT k,zF hz] at he;simp at he
  ·rw[zF k] at he
   exact zst ha (by simpa using he.1)
 ·by_cases k:r.1=2
  ·rw[zT k,zF hz] at he;simp at he
  ·rw[zF k] at he
   exact zst hb (by simpa using he.2)
def eI(l:List aS):List Int:=l.map fun q=>q.2.1
def pT(l:List aS):List Int:=l.map fun q=>q.2.2.1
theorem H4:fY 0=false:=by decide
theorem ZO(prev:List aS)(r:aS)(h1:r.2.1≠0->fY r.2.1=true)(h2:r.2.2.1≠0->fY r.2.2.1=true):
 prev.any (fun q=>lq q r)=(!decide (¬(r.2.1∈eI prev/\fY r.2.1=true))|| !decide (¬(r.2.2.1∈pT prev/\fY r.2.2.1=true))):=by
 have e:prev.any (fun q=>lq q r)=true↔((r.2.1∈eI prev/\fY r.2.1=true)\/(r.2.2.1∈pT prev/\fY r.2.2.1=true)):=by
  rw[List.any_eq_true]
  unfold lq eI pT
  simp only[List.mem_map]
  constructor
  ·rintro⟨q,hq,h⟩
   simp only[Bool.or_eq_true,Bool.and_eq_true,Bool.not_eq_true',decide_eq_false_iff_not,decide_eq_true_eq] at h
   rcases h with⟨g1,g2⟩|⟨g1,g2⟩
   ·exact .inl ⟨⟨q,hq,g2⟩,h1 (by rw[<-g2];exact g1)⟩
   ·exact .inr ⟨⟨q,hq,g2⟩,h2 (by rw[<-g2];exact g1)⟩
  ·rintro(⟨⟨q,hq,g⟩,hr⟩|⟨⟨q,hq,g⟩,hr⟩)
   ·refine⟨q,hq,?_⟩
    have:q.2.1≠0:=fun e=>by rw[<-g,e,H4] at hr;cases hr
    rw[zF this,zT g];rfl
   ·refine⟨q,hq,?_⟩
    have:q.2.2.1≠0:=fun e=>by rw[<-g,e,H4] at hr;cases hr
    rw[zF this,zT g];simp
 cases hb:prev.any (fun q=>lq q r) with
 |true=>
  rcases e.1 hb with h|h
  ·rw[zF (fun hn=>hn h)];rfl
  ·rw[show decide (¬(r.2.2.1∈pT prev/\fY r.2.2.1=true))=false from zF (fun hn=>hn h)];simp
 |false=>
  have hn:=fun h=>(by rw[hb] at e;exact absurd (e.2 h) (by simp):False)
  rw[zT (show¬(r.2.1∈eI prev/\fY r.2.1=true) from fun h=>hn (.inl h)),zT (show¬(r.2.2.1∈pT prev/\fY r.2.2.1=true) from fun h=>hn (.inr h))];rfl
abbrev S2:=Int×Int×Unit
def xu(l:List Int):S2:=((bz l:Int),(bI l:Int),())
theorem zzu(a b:zf)(ha:a.2.2.1.length<=maxLen)(hb:b.2.2.1.length<=maxLen)(oa:gh a)(ob:gh b):∀(l:List aS) (i:Int) (prev:List aS),(∀r∈l,gP r)->
 bc (fun i (x:aS) (s:S2×S2) K=>((mQ x a b).bind fun r3=>(bif(!decide (r3=0)) then some (Sum.inl (r3,(3:Int),i)) else((sW ([x.2.1]:List Int)).bind fun r4=>((sW ([x.2.2.1]:List Int)).bind fun r5=>((p9 s.1 r4).bind fun r6=>(bif(!(decide (r6.1=0)&&(decide (r6.2.1=0)&&true))) then some (Sum.inl ((10:Int),(3:Int),i)) else((p9 s.2 r5).bind fun r7=>(bif(!(decide (r7.1=0)&&(decide (r7.2.1=0)&&true))) then some (Sum.inl ((10:Int),(3:Int),i)) else((re s.1 r4).bind fun r8=>((re s.2 r5).bind fun r9=>K (r8,r9)))))))))))) (fun _=>some (Sum.inr ())) l i (xu (eI prev),xu (pT prev))=Kh (z40 a b prev l i)
 | [],i,prev,_=>rfl
 |r::l,i,prev,h=>by
  simp only[bc,z40]
  rw[VI r a b (h r List.mem_cons_self) ha hb,Option.bind_some]
  by_cases z:dF r a b=0
  ·rw[zT z,if_pos z]
   simp only[Bool.not_true,zD]
   obtain⟨i1,i2⟩:=acU oa ob z
   have m4:=ZO prev r i1 i2
   rw[wl _ (by simp [zj]),Option.bind_some,wl _ (by simp [zj]),Option.bind_some]
   unfold xu
   rw[Iw _ _ _ _ (lp _) (mr _) (lp _) (mr _),Option.bind_some]
   dsimp only
   rw[Iv,decide_eq_decide.2 (zyj (eI prev) r.2.1)]
   by_cases c1:¬(r.2.1∈eI prev/\fY r.2.1=true)
   ·rw[zT c1] at m4⊢
    simp only[Bool.not_true,zD]
    rw[Iw _ _ _ _ (lp _) (mr _) (lp _) (mr _),Option.bind_some]
    dsimp only
    rw[Iv,decide_eq_decide.2 (zyj (pT prev) r.2.2.1)]
    by_cases c2:¬(r.2.2.1∈pT prev/\fY r.2.2.1=true)
    ·rw[zT c2] at m4⊢
     rw[m4]
     simp only[Bool.not_true,zD,Bool.or_false]
     rw[if_neg (by simp),zd2 _ _ _ _ (lp _) (mr _) (lp _) (mr _),Option.bind_some,zd2 _ _ _ _ (lp _) (mr _) (lp _) (mr _),Option.bind_some]
     have:=zzu a b ha hb oa ob l (i+1) (prev++ [r]) (fun q hq=>h q (List.mem_cons_of_mem _ hq))
     rw[show eI (prev++ [r])=eI prev++ [r.2.1] by simp [eI],show pT (prev++ [r])=pT prev++ [r.2.2.1] by simp [pT]] at this
     unfold xu at this
     rw[zzv,zzw,zzv,zzw] at this
     exact this
    ·rw[zF c2] at m4⊢
     rw[m4];rfl
   ·rw[zF c1] at m4⊢
    rw[m4];rfl
  ·rw[zF z,if_neg z];rfl
theorem VJ(m:Map)(a b:zf)(ha:a.2.2.1.length<=maxLen)(hb:b.2.2.1.length<=maxLen):Dm ae ([a,b]:List zf) ((List.length ([a,b]:List zf)):Int) 0 m a b=some (if(gd a).1=0 then(if(gd b).1=0 then .inr (m,a,b) else .inl (1,1,1,m,a,b)) else .inl (1,1,0,m,a,b)):=by
 obtain⟨k,hk⟩:=xv
 rw[hk]
 simp only[Dm,PF]
 have w0:∀{R:Type} (x:Option R),zd 0 ([a,b]:List zf).length x=x:=fun x=>zm (by omega) (by simp)
 have w1:∀{R:Type} (x:Option R),zd 1 ([a,b]:List zf).length x=x:=fun x=>zm (by omega) (by simp)
 have e1:zW zI (0+1)=1:=rfl
 have e2:zW zI (1+1)=2:=rfl
 have d0:decide ((0:Int)<(([a,b]:List zf).length:Int))=true:=rfl
 have d1:decide ((1:Int)<(([a,b]:List zf).length:Int))=true:=rfl
 have d2:decide ((2:Int)<(([a,b]:List zf).length:Int))=false:=rfl
 rw[d0,zC,w0,show List.getD ([a,b]:List zf) (0:Int).toNat ((0:Int),(0:Int),([]:List Spec),())=a from rfl,KD a ha,Option.bind_some]
 by_cases za:(gd a).1=0
 ·rw[zT za,if_pos za]
  simp only[Bool.not_true,zD]
  rw[e1,d1,zC,w1,show List.getD ([a,b]:List zf) (1:Int).toNat ((0:Int),(0:Int),([]:List Spec),())=b from rfl,KD b hb,Option.bind_some]
  by_cases zb:(gd b).1=0
  ·rw[zT zb,if_pos zb]
   simp only[Bool.not_true,zD]
   rw[e2,d2,zD]
  ·rw[zF zb,if_neg zb];rfl
 ·rw[zF za,if_neg za];rfl
abbrev gI:aS:=(0,0,0,bs [],[],())
theorem z7c(m:Map)(a b:zf)(h:eE m)(ha:a.2.2.1.length<=maxLen)(hb:b.2.2.1.length<=maxLen):pu m a b=some (dC m a b):=by
 have h1:=h.vl.len
 have h2:=h.len
 unfold pu PE dC
 dsimp only
 rw[VJ m a b ha hb,Option.bind_some]
 by_cases za:(gd a).1=0
 ·rw[if_pos za,if_pos za]
  by_cases zb:(gd b).1=0
  ·rw[if_pos zb,if_pos zb]
   simp only[Sum.elim_inr]
   unfold PG
   by_cases hm:256<m.1.length
   ·rw[zT (by omega),if_pos hm];rfl
   ·rw[zF (by omega),if_neg hm,zD]
    dsimp only
    rw[Zg m a b h.vl]
    unfold sn
    cases fp a b [] m.1 0 with
    |some e=>rfl
    |none=>
     simp only[Option.bind_some,Sum.elim_inr]
     unfold PH
     by_cases hr:256<m.2.1.length
     ·rw[zT (by omega),if_pos hr];rfl
     ·rw[zF (by omega),if_neg hr,zD]
      dsimp only
      have:=cm gI m.2.1 (by rw[zj];omega) (fun i (x:aS) (s:S2×S2) K=>((mQ x a b).bind fun r3=>(bif(!decide (r3=0)) then some (Sum.inl (r3,(3:Int),i)) else((sW ([x.2.1]:List Int)).bind fun r4=>((sW ([x.2.2.1]:List Int)).bind fun r5=>((p9 s.1 r4).bind fun r6=>(bif(!(decide (r6.1=0)&&(decide (r6.2.1=0)&&true))) then some (Sum.inl ((10:Int),(3:Int),i)) else((p9 s.2 r5).bind fun r7=>(bif(!(decide (r7.1=0)&&(decide (r7.2.1=0)&&true))) then some (Sum.inl ((10:Int),(3:Int),i)) else((re s.1 r4).bind fun r8=>((re s.2 r5).bind fun r9=>K (r8,r9)))))))))))) (fun _=>some (Sum.inr ()))
       (fun k i s=>Le k m.2.1 (m.2.1.length:Int) i a b s.1 s.2) (fun k i s=>rfl) (xu (eI []),xu (pT []))
      have h3:=zzu a b ha hb ((sO a).1 za) ((sO b).1 zb) m.2.1 0 [] h.rules
      rw[h3] at this
      have h4:xu (eI [])=((0:Int),(0:Int),()):=rfl
      have h5:xu (pT [])=((0:Int),(0:Int),()):=rfl
      rw[h4,h5] at this
      rw[this]
      unfold Kh
      cases z40 a b [] m.2.1 0<;>rfl
  ·rw[if_neg zb,if_neg zb];rfl
 ·rw[if_neg za,if_neg za];rfl
instance MJ:DecidableEq aS:=fun x y=>decidable_of_iff ((decide (x.1=y.1)&&(decide (x.2.1=y.2.1)&&(decide (x.2.2.1=y.2.2.1)&&(decide (x.2.2.2.1=y.2.2.2.1)&&decide (x.2.2.2.2.1=y.2.2.2.2.1)))))=true) (by obtain⟨a1,a2,a3,a4,a5,u⟩:=x;obtain⟨b1,b2,b3,b4,b5,v⟩:=y;simp)
instance TJ:DecidableEq Map:=fun x y=>decidable_of_iff ((decide (x.1=y.1)&&decide (x.2.1=y.2.1))=true) (by obtain⟨a1,a2,u⟩:=x;obtain⟨b1,b2,v⟩:=y;simp)
def sI(r:aS):aS:=(r.1,r.2.2.1,r.2.1,r.2.2.2.1,kq r.2.2.2.2.1,())
def Hc(m:Map):Map:=(kq m.1,m.2.1.map sI,())
abbrev TI:Map:=([],[],())
structure ag0(r:aS)(a b:zf):Prop where
 lo:¬r.1<1
 hi:¬(5:Int)<r.1
 ends:eH r a b=false
 text:me r=false
 kind:kh r (aN a r.2.1) (aN b r.2.2.1)=0
theorem M4{a b:zf}:∀{l:List bK} {seen:List ByteArray} {i:Int},fp a b seen l i=none↔(∀p∈l,yD p a b=true)/\kH seen l i=none
 | [],seen,i=>by simp [fp,kH]
 |p::r,seen,i=>by
  simp only[fp,kH,List.mem_cons,forall_eq_or_imp]
  cases ht:yD p a b with
  |false=>simp
  |true=>
   rw[if_pos rfl]
   by_cases hm:p.1∈seen
   ·simp [hm]
   ·rw[if_neg hm,if_neg hm,M4]
    simp
def Dc:List aS->List aS->Prop
 |_,[]=>True
 |prev,r::l=>prev.any (fun q=>lq q r)=false/\Dc (prev++ [r]) l
theorem MW{a b:zf}:∀{l:List aS} {prev:List aS} {i:Int},z40 a b prev l i=none↔(∀r∈l,dF r a b=0)/\Dc prev l
 | [],prev,i=>by simp [z40,Dc]
 |r::l,prev,i=>by
  simp only[z40,Dc,List.mem_cons,forall_eq_or_imp]
  by_cases z:dF r a b=0
  ·rw[if_pos z]
   cases hp:prev.any (fun q=>lq q r) with
   |true=>simp
   |false=>
    rw[if_neg (by simp),MW]
    simp [z]
  ·rw[if_neg z];simp [z]
theorem zt7{a b:zf}:∀{l:List bK} {seen:List ByteArray} {i:Int} {e:Int×Int},fp a b seen l i=some e->e.1≠0
 |p::r,seen,i,e,h=>by
  simp only[fp] at h
  split at h
  ·split at h
   ·cases h;simp
   ·exact zt7 h
  ·cases h;simp
theorem zmk{a b:zf}:∀{l:List aS} {prev:List aS} {i:Int} {e:Int×Int},z40 a b prev l i=some e->e.1≠0
 |r::l,prev,i,e,h=>by
  simp only[z40] at h
  split at h
  ·split at h
   ·cases h;simp
   ·exact zmk h
  ·rename_i hz
   cases h;exact hz
structure dL(m:Map)(a b:zf):Prop where
 sa:(gd a).1=0
 sb:(gd b).1=0
 GQ:m.1.length<=256
 typed:∀p∈m.1,yD p a b=true
 dup:kH [] m.1 0=none
 GR:m.2.1.length<=256
 rules:∀r∈m.2.1,dF r a b=0
 sJ:Dc [] m.2.1
theorem zog{m:Map}{a b:zf}:(dC m a b).1=0↔dL m a b:=by
 constructor
 ·intro h
  unfold dC at h
  split at h
  ·split at h
   ·rename_i h1 h2
    split at h
    ·cases h
    ·rename_i h3
     split at h
     ·rename_i e he
      exact absurd h (zt7 he)
     ·rename_i hm
      split at h
      ·cases h
      ·rename_i h4
       split at h
       ·rename_i e he
        exact absurd h (zmk he)
       ·rename_i hr
        obtain⟨g1,g2⟩:=M4.1 hm
        obtain⟨g3,g4⟩:=MW.1 hr
        exact⟨h1,h2,by omega,g1,g2,by omega,g3,g4⟩
   ·cases h
  ·cases h
 ·intro h
  unfold dC
  have e1:=M4.2 ⟨h.typed,h.dup⟩
  have e2:z40 a b [] m.2.1 0=none:=MW.2 ⟨h.rules,h.sJ⟩
  have l1:=h.GQ
  have l2:=h.GR
  rw[if_pos h.sa,if_pos h.sb,if_neg (by omega),e1]
  simp only
  rw[if_neg (by omega),e2]
theorem dL.eq{m:Map}{a b:zf}(h:dL m a b):dC m a b=(0,0,0):=by
 unfold dC
 have e1:=M4.2 ⟨h.typed,h.dup⟩
 have e2:z40 a b [] m.2.1 0=none:=MW.2 ⟨h.rules,h.sJ⟩
 have l1:=h.GQ
 have l2:=h.GR
 rw[if_pos h.sa,if_pos h.sb,if_neg (by omega),e1]
 simp only
 rw[if_neg (by omega),e2]
theorem ej.turn{l:List bK}(h:ej l):ej (kq l):=⟨by rw[ZM];exact h.len,fun p hp=>by
 unfold kq at hp
 obtain⟨q,hq,rfl⟩:=List.mem_map.1 hp
 exact⟨(h.sz q hq).2,(h.sz q hq).1⟩⟩
theorem eE.turn{m:Map}(h:eE m):eE (Hc m):=⟨h.vl.turn,by show(m.2.1.map sI).length<=_;rw[List.length_map];exact h.len,fun r hr=>by
 obtain⟨q,hq,rfl⟩:=List.mem_map.1 (show r∈m.2.1.map sI from hr)
 exact⟨(h.rules q hq).text,(h.rules q hq).iq.turn⟩⟩
theorem acu(l:List aO)(no:Int)(t:ByteArray):(kP l no t).length=l.length+1:=by
 unfold kP
 rcases Ks no l 0 (Int.le_refl _) with⟨h1,_⟩|h1
 ·rw[h1,zT (by omega:(-1:Int)<0),zC,List.length_append];rfl
 ·rw[zF (by omega:¬bO no l 0<0),zD,List.length_append,List.length_take,List.length_cons,List.length_drop]
  omega
theorem Nh(m:aZ)(no:Int)(t:ByteArray):(dv m no t).2.1.length<=m.2.1.length+1:=by
 show(kP (dV m.2.1 no) no t).length<=_
 rw[acu]
 have:=zyw m.2.1 no
 omega
theorem adj(m:Map)(t:ByteArray)(h:m.1.length<=maxLen):q9 m t=some (zx m.1 t):=by
 unfold q9 PQ
 dsimp only
 have:=cm ju m.1 h (fun i (x:bK) (s:Unit) K=>bif decide (x.1=t) then some (Sum.inl (x.2.1,true)) else K s) (fun _=>some (Sum.inr ()))
  (fun k i s=>Li k t m.1 (m.1.length:Int) i) (fun k i s=>rfl) ()
 rw[this,zbj]
 unfold zx
 cases m.1.find? fun p=>decide (p.1=t)<;>rfl
def dW(m:Map)(no:Int):Option aS:=m.2.1.find? fun r=>decide (r.2.1=no)
def xt(o:Option aS):Option (Sum (Bool×aS) aS):=some (match o with
 |some r=> .inl (true,r)
 |none=> .inr gI)
theorem HP(no:Int):∀(l:List aS) (i:Int),bc (fun i (x:aS) (s:Unit) K=>(bif(decide (x.2.1=no)) then some (Sum.inl (true,x)) else K s)) (fun _=>some (Sum.inr gI)) l i ()=xt (l.find? fun r=>decide (r.2.1=no))
 | [],i=>rfl
 |x::r,i=>by
  rw[bc,List.find?_cons]
  cases hx:decide (x.2.1=no) with
  |true=>rfl
  |false=>rw[zD];exact HP no r (i+1)
theorem Z2(m:Map)(no:Int)(h:m.2.1.length<=maxLen):mT m no=some (match dW m no with
 |some r=>(r,true)
 |none=>(gI,false)):=by
 unfold mT PN dW
 dsimp only
 have:=cm gI m.2.1 h (fun i (x:aS) (s:Unit) K=>(bif(decide (x.2.1=no)) then some (Sum.inl (true,x)) else K s)) (fun _=>some (Sum.inr gI))
  (fun k i s=>Lh k no m.2.1 (m.2.1.length:Int) i gI) (fun k i s=>rfl) ()
 rw[this,HP]
 unfold xt
 cases m.2.1.find? fun r=>decide (r.2.1=no)<;>rfl
def pX:List aS->aZ->aZ
 | [],out=>out
 |r::l,out=>pX l (bif decide (r.1=3) then dv out r.2.2.1 r.2.2.2.1 else out)
theorem z9p:∀(l:List aS) (out:aZ),(pX l out).2.1.length<=out.2.1.length+l.length
 | [],out=>Nat.le_refl _
 |r::l,out=>by
  rw[pX,List.length_cons]
  cases decide (r.1=3) with
  |true=>rw[zC];have:=z9p l (dv out r.2.2.1 r.2.2.2.1);have:=Nh out r.2.2.1 r.2.2.2.1;omega
  |false=>rw[zD];have:=z9p l out;omega
theorem zch{ρ:Type}(fin:aZ->Option ρ):∀(l:List aS) (i:Int) (out:aZ),out.2.1.length+l.length<=1000000->
 bc (fun i (x:aS) (s:aZ) K=>(bif(decide (x.1=(3:Int))) then((gi s x.2.2.1 x.2.2.2.1).bind fun r4=>K r4) else K s)) fin l i out=fin (pX l out)
 | [],i,out,_=>rfl
 |r::l,i,out,h=>by
  simp only[List.length_cons] at h
  rw[bc,pX]
  cases decide (r.1=3) with
  |true=>
   rw[zC,zC,Nk out _ _ (by omega),zc]
   have:=Nh out r.2.2.1 r.2.2.2.1
   exact zch fin l (i+1) _ (by omega)
  |false=>
   rw[zD,zD]
   exact zch fin l (i+1) out (by omega)
def yq(m:Map)(b:zf):List aO->aZ->Sum (bA×aZ) aZ
 | [],out=> .inr out
 |v::r,out=>match dW m v.1 with
  |none=> .inl ((9,v.1,()),out)
  |some q=>bif !decide ((fy q b v.2.1).2=0) then .inl (((fy q b v.2.1).2,v.1,()),out) else yq m b r (bif !decide ((fy q b v.2.1).1.1=0) then dv out (fy q b v.2.1).1.1 (fy q b v.2.1).1.2.1 else out)
abbrev cE:aZ:=(bs [],[],())
def HM(o:Sum (bA×aZ) aZ):Option (Sum (aZ×bA×aZ) (aZ×bA×aZ)):=some (match o with
 | .inl (f,out)=> .inl (cE,f,out)
 | .inr out=> .inr (cE,zw,out))
theorem C5{m:Map}{no:Int}{r:aS}(h:dW m no=some r):r∈m.2.1/\r.2.1=no:=⟨List.mem_of_find?_eq_some h,by simpa using List.find?_some h⟩
theorem z9u(m:Map)(b:zf)(hm:eE m)(hb:b.2.2.1.length<=maxLen):∀(l:List aO) (i:Int) (out:aZ),out.2.1.length+l.length<=1000000->(∀v∈l,v.2.1.size<=1099511627776)->
 bc (fun i (x:aO) (s:aZ) K=>((mT m x.1).bind fun r5=>(bif(!r5.2) then some (Sum.inl (cE,((9:Int),x.1,()),s)) else((mP r5.1 b x.2.1).bind fun r6=>(bif(!(decide (r6.2=(0:Int)))) then some (Sum.inl (cE,(r6.2,x.1,()),s)) else(bif(!(decide (r6.1.1=(0:Int)))) then((gi s r6.1.1 r6.1.2.1).bind fun r7=>K r7) else K s)))))) (fun s=>some (Sum.inr (cE,zw,s))) l i out=HM (yq m b l out)
 | [],i,out,_,_=>rfl
 |v::r,i,out,h,ht=>by
  simp only[List.length_cons] at h
  have hl:=hm.len
  have hv:=ht v List.mem_cons_self
  rw[bc,Z2 m v.1 (by rw[zj];omega),zc,yq]
  cases hf:dW m v.1 with
  |none=>rfl
  |some q=>
   dsimp only
   obtain⟨q1,_⟩:=C5 hf
   have qp:=(hm.rules q q1).iq.len
   rw[Bool.not_true,zD,VH q b v.2.1 (by rw[zj];omega) hb (by rw[zj];omega),zc]
   generalize fy q b v.2.1=y
   cases decide (y.2=0) with
   |false=>rfl
   |true=>
    rw[Bool.not_true,zD,zD]
    cases decide (y.1.1=0) with
    |true=>
     rw[Bool.not_true,zD,zD]
     exact z9u m b hm hb r (i+1) out (by omega) (fun w hw=>ht w (List.mem_cons_of_mem _ hw))
    |false=>
     rw[Bool.not_false,zC,zC,Nk out _ _ (by omega),zc]
     have:=Nh out y.1.1 y.1.2.1
     exact z9u m b hm hb r (i+1) _ (by omega) (fun w hw=>ht w (List.mem_cons_of_mem _ hw))
def mw(m:Map)(a b:zf)(x:aZ):aZ×bA:=
 bif !decide ((dC m a b).1=0) then(cE,(1,-1,())) else bif !decide ((eU a x).1=0) then(cE,eU a x) else bif !(zx m.1 x.1).2 then(cE,(7,0,()))
 else match yq m b x.2.1 (pX m.2.1 ((zx m.1 x.1).1,[],())) with
  | .inl (f,_)=>(cE,f)
  | .inr out=>(out,zw)
theorem Vv(m:Map)(a b:zf)(x:aZ)(hm:eE m)(Ai:m.2.1.length<=900000)(hx:dm x)(sf:x.2.1.length<=90000)(ha:a.2.2.1.length<=maxLen)(hb:b.2.2.1.length<=maxLen):pw m a b x=some (mw m a b x):=by
 have hl:=hm.vl.len
 unfold pw PK mw
 rw[z7c m a b hm ha hb,zc]
 cases decide ((dC m a b).1=0) with
 |false=>rfl
 |true=>
  rw[Bool.not_true,zD,zD,zmf a x ha hx,zc]
  cases decide ((eU a x).1=0) with
  |false=>rfl
  |true=>
   rw[Bool.not_true,zD,zD,adj m x.1 (by rw[zj];omega),zc]
   cases(zx m.1 x.1).2 with
   |false=>rfl
   |true=>
    rw[Bool.not_true,zD,zD]
    dsimp only
    have h1:=cm gI m.2.1 (by rw[zj];omega) (fun i (x:aS) (s:aZ) K=>(bif(decide (x.1=(3:Int))) then((gi s x.2.2.1 x.2.2.2.1).bind fun r4=>K r4) else K s)) (fun s=>some (m,b,x,cE,zw,s))
     (fun k i s=>Lf k m.2.1 (m.2.1.length:Int) i m b x cE zw s) (fun k i s=>rfl) ((zx m.1 x.1).1,[],())
    rw[h1,zch _ _ _ _ (by simp;omega),zc]
    unfold PL
    dsimp only
    have hc:=z9p m.2.1 ((zx m.1 x.1).1,[],())
    have hc:(pX m.2.1 ((zx m.1 x.1).1,[],())).2.1.length<=m.2.1.length:=by simpa using hc
    have h2:=cm gY x.2.1 (by rw[zj];omega) (fun i (x:aO) (s:aZ) K=>((mT m x.1).bind fun r5=>(bif(!r5.2) then some (Sum.inl (cE,((9:Int),x.1,()),s)) else((mP r5.1 b x.2.1).bind fun r6=>(bif(!(decide (r6.2=(0:Int)))) then some (Sum.inl (cE,(r6.2,x.1,()),s)) else(bif(!(decide (r6.1.1=(0:Int)))) then((gi s r6.1.1 r6.1.2.1).bind fun r7=>K r7) else K s)))))) (fun s=>some (Sum.inr (cE,zw,s)))
     (fun k i s=>Lg k x.2.1 (x.2.1.length:Int) i m b cE zw s) (fun k i s=>rfl) (pX m.2.1 ((zx m.1 x.1).1,[],()))
    rw[h2,z9u m b hm hb _ _ _ (by omega) hx.mh]
    unfold HM
    cases yq m b x.2.1 (pX m.2.1 ((zx m.1 x.1).1,[],())) with
    |inl p=>obtain⟨f,o⟩:=p;rfl
    |inr o=>rfl
abbrev iJ(l:List aO):Prop:=l.Pairwise fun x y=>x.1<y.1
def kO(no:Int)(t:ByteArray):List aO->List aO
 | []=>[(no,t,())]
 |x::r=>if no<x.1 then(no,t,())::x::r else x::kO no t r
theorem zmd(no:Int):∀(l:List aO) (i d:Int),0<=i->0<=d->bO no l (i+d)=if bO no l i<0 then-1 else bO no l i+d
 | [],i,d,_,_=>by unfold bO;rw[if_pos (by omega)]
 |x::r,i,d,hi,hd=>by
  unfold bO
  by_cases hx:no<x.1
  ·rw[if_pos hx,if_pos hx,if_neg (by omega)]
  ·rw[if_neg hx,if_neg hx,show i+d+1=(i+1)+d by omega]
   exact zmd no r (i+1) d (by omega) hd
theorem zxr(no:Int)(t:ByteArray):∀l:List aO,kP l no t=kO no t l
 | []=>rfl
 |x::r=>by
  have ih:=zxr no t r
  unfold kP at ih⊢
  unfold kO
  by_cases hx:no<x.1
  ·have:bO no (x::r) 0=0:=by unfold bO;rw[if_pos hx]
   rw[this,if_pos hx];rfl
  ·rw[if_neg hx,<-ih]
   have h0:bO no (x::r) 0=bO no r (0+1):=by
    show(if no<x.1 then(0:Int) else bO no r (0+1))=_
    rw[if_neg hx]
   rw[h0,zmd no r 0 1 (by omega) (by omega)]
   rcases Ks no r 0 (Int.le_refl _) with⟨h1,_⟩|h1
   ·rw[h1,if_pos (by omega)];rfl
   ·rw[if_neg (by omega),zF (by omega:¬bO no r 0+1<0),zF (by omega:¬bO no r 0<0),zD,zD]
    have:(bO no r 0+1).toNat=(bO no r 0).toNat+1:=by omega
    rw[this];rfl
theorem zoe(no:Int)(t:ByteArray)(v:aO):∀l:List aO,v∈kO no t l↔v=(no,t,())\/v∈l
 | []=>by simp [kO]
 |x::r=>by
  unfold kO
  split
  ·simp
  ·rw[List.mem_cons,zoe no t v r,List.mem_cons]
   constructor
   ·rintro(h|h|h)
    ·exact .inr (.inl h)
    ·exact .inl h
    ·exact .inr (.inr h)
   ·rintro(h|h|h)
    ·exact .inr (.inl h)
    ·exact .inl h
    ·exact .inr (.inr h)
theorem z141(no:Int)(t:ByteArray):∀{l:List aO},iJ l->(∀x∈l,x.1≠no)->iJ (kO no t l)
 | [],_,_=>by simp [kO,iJ]
 |x::r,h,hn=>by
  have hx:=hn x List.mem_cons_self
  rw[iJ,List.pairwise_cons] at h
  unfold kO
  split
  ·rename_i ap
   refine List.pairwise_cons.2 ⟨fun y hy=> ?_,List.pairwise_cons.2 h⟩
   rcases List.mem_cons.1 hy with rfl|hy
   ·exact ap
   ·have:=h.1 y hy
    show no<y.1
    omega
  ·rename_i ap
   refine List.pairwise_cons.2 ⟨fun y hy=> ?_,z141 no t h.2 (fun z hz=>hn z (List.mem_cons_of_mem _ hz))⟩
   rcases(zoe no t y r).1 hy with rfl|hy
   ·show x.1<no
    omega
   ·exact h.1 y hy
theorem zyx{l:List aO}{no:Int}{v:aO}:v∈dV l no↔v∈l/\v.1≠no:=by
 unfold dV
 rw[List.mem_filter]
 simp
theorem Ni(m:aZ)(no:Int)(t:ByteArray)(v:aO):v∈(dv m no t).2.1↔v=(no,t,())\/(v∈m.2.1/\v.1≠no):=by
 show v∈kP (dV m.2.1 no) no t↔_
 rw[zxr,zoe,zyx]
theorem zhl{m:aZ}(h:iJ m.2.1)(no:Int)(t:ByteArray):iJ (dv m no t).2.1:=by
 show iJ (kP (dV m.2.1 no) no t)
 rw[zxr]
 exact z141 no t (h.filter _) (fun x hx=>(zyx.1 hx).2)
theorem Jm:∀{l r:List aO},iJ l->iJ r->(∀v,v∈l↔v∈r)->l=r
 | [],[],_,_,_=>rfl
 | [],y::r,_,_,h=>by have:=(h y).2 List.mem_cons_self;cases this
 |x::l,[],_,_,h=>by have:=(h x).1 List.mem_cons_self;cases this
 |x::l,y::r,hl,hr,h=>by
  have u6:=List.pairwise_cons.1 hl
  have Tk:=List.pairwise_cons.1 hr
  have e:x=y:=by
   rcases List.mem_cons.1 ((h x).1 List.mem_cons_self) with e|e
   ·exact e
   ·rcases List.mem_cons.1 ((h y).2 List.mem_cons_self) with e2|e2
    ·exact e2.symm
    ·have a1:=Tk.1 x e
     have a2:=u6.1 y e2
     omega
  subst e
  congr 1
  refine Jm u6.2 Tk.2 fun v=>⟨fun hv=> ?_,fun hv=> ?_⟩
  ·rcases List.mem_cons.1 ((h v).1 (List.mem_cons_of_mem _ hv)) with e|e
   ·subst e;have:=u6.1 _ hv;omega
   ·exact e
  ·rcases List.mem_cons.1 ((h v).2 (List.mem_cons_of_mem _ hv)) with e|e
   ·subst e;have:=Tk.1 _ hv;omega
   ·exact e
def qu:List aO->aZ->aZ
 | [],out=>out
 |v::l,out=>qu l (dv out v.1 v.2.1)
def iN(l:List aO):Prop:=l.Pairwise fun x y=>x.1≠y.1
theorem zmh:∀(l:List aO) (out:aZ),(qu l out).1=out.1
 | [],out=>rfl
 |v::l,out=>zmh l _
theorem ztc:∀(l:List aO) {out:aZ},iJ out.2.1->iJ (qu l out).2.1
 | [],out,h=>h
 |v::l,out,h=>ztc l (zhl h v.1 v.2.1)
theorem ztb:∀(l:List aO) (out:aZ),iN l->(∀v∈l,∀w∈out.2.1,v.1≠w.1)->∀v,v∈(qu l out).2.1↔v∈out.2.1\/v∈l
 | [],out,_,_,v=>by simp [qu]
 |x::l,out,ha,hd,v=>by
  have F4:=List.pairwise_cons.1 ha
  have hx:(x.1,x.2.1,())=x:=rfl
  rw[qu,ztb l _ F4.2 (fun y hy w hw=> ?_) v,Ni,hx,List.mem_cons]
  ·constructor
   ·rintro((h|h)|h)
    ·exact .inr (.inl h)
    ·exact .inl h.1
    ·exact .inr (.inr h)
   ·rintro(h|h|h)
    ·exact .inl (.inr ⟨h,fun e=>hd x List.mem_cons_self v h e.symm⟩)
    ·exact .inl (.inl h)
    ·exact .inr h
  ·rcases(Ni out x.1 x.2.1 w).1 hw with e|e
   ·rw[e];exact fun h=>F4.1 y hy h.symm
   ·exact hd y (List.mem_cons_of_mem _ hy) w e.1
theorem zd0:∀(l r:List aO) (out:aZ),qu (l++r) out=qu r (qu l out)
 | [],r,out=>rfl
 |v::l,r,out=>zd0 l r _
def iM(l:List aS):List aO:=(l.filter fun r=>decide (r.1=3)).map fun r=>(r.2.2.1,r.2.2.2.1,())
theorem z9q:∀(l:List aS) (out:aZ),pX l out=qu (iM l) out
 | [],out=>rfl
 |r::l,out=>by
  rw[pX]
  unfold iM
  rw[List.filter_cons]
  cases decide (r.1=3) with
  |true=>exact z9q l _
  |false=>exact z9q l _
def jz(m:Map)(b:zf):List aO->Sum bA (List aO)
 | []=> .inr []
 |v::r=>match dW m v.1 with
  |none=> .inl (9,v.1,())
  |some q=>bif !decide ((fy q b v.2.1).2=0) then .inl ((fy q b v.2.1).2,v.1,()) else match jz m b r with
   | .inl f=> .inl f
   | .inr ys=> .inr ((fy q b v.2.1).1::ys)
def bZ(l:List aO):List aO:=l.filter fun v=> !decide (v.1=0)
theorem z9t(m:Map)(b:zf):∀(l:List aO) (out:aZ),(∃f o,yq m b l out= .inl (f,o)/\jz m b l= .inl f)\/(∃ys,yq m b l out= .inr (qu (bZ ys) out)/\jz m b l= .inr ys)
 | [],out=> .inr ⟨[],rfl,rfl⟩
 |v::r,out=>by
  rw[yq,jz]
  cases dW m v.1 with
  |none=>exact .inl ⟨_,_,rfl,rfl⟩
  |some q=>
   dsimp only
   generalize fy q b v.2.1=y
   cases decide (y.2=0) with
   |false=>exact .inl ⟨_,_,rfl,rfl⟩
   |true=>
    rw[Bool.not_true,zD,zD]
    cases hz:decide (y.1.1=0) with
    |true=>
     rw[Bool.not_true,zD]
     rcases z9t m b r out with⟨f,o,h1,h2⟩|⟨ys,h1,h2⟩
     ·exact .inl ⟨f,o,h1,by rw[h2]⟩
     ·refine .inr ⟨y.1::ys,?_,by rw[h2]⟩
      rw[h1]
      have:bZ (y.1::ys)=bZ ys:=by unfold bZ;rw[List.filter_cons,hz];rfl
      rw[this]
    |false=>
     rw[Bool.not_false,zC]
     rcases z9t m b r (dv out y.1.1 y.1.2.1) with⟨f,o,h1,h2⟩|⟨ys,h1,h2⟩
     ·exact .inl ⟨f,o,h1,by rw[h2]⟩
     ·refine .inr ⟨y.1::ys,?_,by rw[h2]⟩
      rw[h1]
      have:bZ (y.1::ys)=y.1::bZ ys:=by unfold bZ;rw[List.filter_cons,hz];rfl
      rw[this]
      rfl
theorem Kq{m:Map}{b:zf}:∀{l ys:List aO},jz m b l= .inr ys->∀y∈ys,∃v∈l,∃q,dW m v.1=some q/\(fy q b v.2.1).2=0/\y=(fy q b v.2.1).1
 | [],ys,h,y,hy=>by cases h;cases hy
 |v::r,ys,h,y,hy=>by
  rw[jz] at h
  cases hf:dW m v.1 with
  |none=>rw[hf] at h;cases h
  |some q=>
   rw[hf] at h
   dsimp only at h
   cases hz:decide ((fy q b v.2.1).2=0) with
   |false=>rw[hz] at h;cases h
   |true=>
    rw[hz,Bool.not_true,zD] at h
    cases hr:jz m b r with
    |inl f=>rw[hr] at h;cases h
    |inr zs=>
     rw[hr] at h
     cases h
     rcases List.mem_cons.1 hy with rfl|hy
     ·exact⟨v,List.mem_cons_self,q,hf,of_decide_eq_true hz,rfl⟩
     ·obtain⟨w,hw,q',g⟩:=Kq hr y hy
      exact⟨w,List.mem_cons_of_mem _ hw,q',g⟩
theorem W0(x y:aS):lq x y=lq y x:=by
 unfold lq
 have e1:(!decide (x.2.1=0)&&decide (x.2.1=y.2.1))=(!decide (y.2.1=0)&&decide (y.2.1=x.2.1)):=by
  by_cases h:x.2.1=y.2.1
  ·rw[h]
  ·rw[zF h,zF (show¬y.2.1=x.2.1 from fun e=>h e.symm),Bool.and_false,Bool.and_false]
 have e2:(!decide (x.2.2.1=0)&&decide (x.2.2.1=y.2.2.1))=(!decide (y.2.2.1=0)&&decide (y.2.2.1=x.2.2.1)):=by
  by_cases h:x.2.2.1=y.2.2.1
  ·rw[h]
  ·rw[zF h,zF (show¬y.2.2.1=x.2.2.1 from fun e=>h e.symm),Bool.and_false,Bool.and_false]
 rw[e1,e2]
theorem zh2:∀{l prev:List aS},Dc prev l->l.Pairwise (fun x y=>lq x y=false)/\∀p∈prev,∀x∈l,lq p x=false
 | [],prev,h=>⟨List.Pairwise.nil,fun _ _ x hx=>by cases hx⟩
 |r::l,prev,h=>by
  obtain⟨h1,h2⟩:=h
  obtain⟨i1,i2⟩:=zh2 h2
  have hp:∀p∈prev,lq p r=false:=fun p hp=>by
   have:=List.any_eq_false.1 h1 p hp
   simpa using this
  refine⟨List.pairwise_cons.2 ⟨fun y hy=>i2 r (by simp) y hy,i1⟩,fun p hp' x hx=> ?_⟩
  rcases List.mem_cons.1 hx with rfl|hx
  ·exact hp p hp'
  ·exact i2 p (by simp [hp']) x hx
theorem zhj{x y:aS}(h:lq x y=false)(hx:x.2.2.1≠0):x.2.2.1≠y.2.2.1:=by
 intro e
 unfold lq at h
 rw[Bool.or_eq_false_iff] at h
 have:=h.2
 rw[zF hx,zT e] at this
 cases this
theorem Ic{l:List aS}(h:l.Pairwise fun x y=>lq x y=false):∀x∈l,∀y∈l,x≠y->lq x y=false:=by
 induction l with
 |nil=>intro x hx;cases hx
 |cons r l ih=>
  obtain⟨h1,h2⟩:=List.pairwise_cons.1 h
  intro x hx y hy cg
  rcases List.mem_cons.1 hx with e1|hx1
  ·rcases List.mem_cons.1 hy with e2|Tw
   ·exact absurd (e1.trans e2.symm) cg
   ·rw[e1];exact h1 y Tw
  ·rcases List.mem_cons.1 hy with e2|Tw
   ·rw[W0,e2];exact h1 x hx1
   ·exact ih h2 x hx1 y Tw cg
theorem tc{s:zf}:∀{l:List aO} {last:Int},oW s l last=none↔(∀v∈l,bp s v.1=true/\aY (aN s v.1) v.2.1=0)/\iJ l/\∀v∈l,last<v.1
 | [],last=>by simp [oW,iJ]
 |x::r,last=>by
  rw[oW]
  by_cases h1:x.1<=last
  ·rw[zT h1,zC]
   refine⟨fun h=>(by cases h),fun h=> ?_⟩
   have:=h.2.2 x List.mem_cons_self
   omega
  rw[zF h1,zD]
  cases h2:bp s x.1 with
  |false=>
   refine⟨fun h=>(by cases h),fun h=> ?_⟩
   have:=(h.1 x List.mem_cons_self).1
   rw[h2] at this;cases this
  |true=>
   rw[Bool.not_true,zD]
   by_cases h3:aY (aN s x.1) x.2.1=0
   ·rw[zT h3,Bool.not_true,zD,tc]
    constructor
    ·rintro⟨g1,g2,g3⟩
     refine⟨fun v hv=> ?_,List.pairwise_cons.2 ⟨g3,g2⟩,fun v hv=> ?_⟩
     ·rcases List.mem_cons.1 hv with rfl|hv
      ·exact⟨h2,h3⟩
      ·exact g1 v hv
     ·rcases List.mem_cons.1 hv with rfl|hv
      ·omega
      ·have:=g3 v hv;omega
    ·rintro⟨g1,g2,g3⟩
     have g2:=List.pairwise_cons.1 g2
     exact⟨fun v hv=>g1 v (List.mem_cons_of_mem _ hv),g2.2,g2.1⟩
   ·rw[zF h3,Bool.not_false,zC]
    refine⟨fun h=>(by cases h),fun h=> ?_⟩
    exact absurd (h.1 x List.mem_cons_self).2 h3
theorem zgo{s:zf}:∀{l:List aO} {last:Int} {f:bA},oW s l last=some f->f.1≠0
 | [],last,f,h=>by cases h
 |x::r,last,f,h=>by
  rw[oW] at h
  cases h1:decide (x.1<=last) with
  |true=>rw[h1] at h;cases h;exact(by decide:(11:Int)≠0)
  |false=>
   rw[h1,zD] at h
   cases h2:bp s x.1 with
   |false=>rw[h2] at h;cases h;exact(by decide:(9:Int)≠0)
   |true=>
    rw[h2,Bool.not_true,zD] at h
    by_cases h3:aY (aN s x.1) x.2.1=0
    ·rw[zT h3,Bool.not_true,zD] at h
     exact zgo h
    ·rw[zF h3,Bool.not_false,zC] at h
     cases h
     exact h3
structure eO(s:zf)(m:aZ):Prop where
 gV:(gd s).1=0
 right:fI m.1=true
 ML:dk m.1=s.2.1
 gx:oW s m.2.1 0=none
theorem z93{s:zf}{m:aZ}:(eU s m).1=0↔eO s m:=by
 unfold eU
 by_cases h1:(gd s).1=0
 ·rw[zT h1,Bool.not_true,zD]
  cases h2:fI m.1 with
  |false=>exact⟨fun h=>absurd h (show¬(7:Int)=0 by decide),fun h=>by have:=h.right;rw[h2] at this;cases this⟩
  |true=>
   rw[Bool.not_true,zD]
   by_cases h3:dk m.1=s.2.1
   ·rw[zT h3,Bool.not_true,zD]
    cases h4:oW s m.2.1 0 with
    |none=>exact⟨fun _=>⟨h1,h2,h3,h4⟩,fun _=>rfl⟩
    |some f=>exact⟨fun h=>absurd h (zgo h4),fun h=>by have:=h.gx;rw[h4] at this;cases this⟩
   ·rw[zF h3]
    exact⟨fun h=>absurd h (show¬(7:Int)=0 by decide),fun h=>absurd h.ML h3⟩
 ·rw[zF h1]
  exact⟨fun h=>absurd h (show¬(1:Int)=0 by decide),fun h=>absurd h.gV h1⟩
theorem eO.eq{s:zf}{m:aZ}(h:eO s m):eU s m=zw:=by
 unfold eU
 rw[zT h.gV,h.right,zT h.ML,h.gx];rfl
theorem BP{s:zf}(h:gh s){no:Int}(hh:bp s no=true):2<=no/\no<=128:=by
 have:=(zml (Nf h hh)).1
 rw[(Nr hh).2] at this
 exact this
theorem Ky{q:aS}{b:zf}{t:ByteArray}(h:(fy q b t).2=0)(hz:(fy q b t).1.1≠0):q.1≠2/\(fy q b t).1.1=q.2.2.1:=by
 unfold fy at h hz⊢
 by_cases k1:q.1=1
 ·rw[zT k1,zC];exact⟨by omega,rfl⟩
 rw[zF k1,zD] at h hz⊢
 by_cases k2:q.1=2
 ·rw[zT k2,zC] at hz;exact absurd rfl hz
 rw[zF k2,zD] at h hz⊢
 refine⟨k2,?_⟩
 by_cases k3:q.1=3
 ·rw[zT k3,zC]
 rw[zF k3,zD] at h hz⊢
 by_cases k4:q.1=4
 ·rw[zT k4,zC] at h hz⊢
  cases hs:bp b q.2.2.1 with
  |false=>rw[hs] at h;cases h
  |true=>
   rw[hs] at h
   rw[Bool.not_true,zD] at h⊢
   cases hp:(eV t (aN b q.2.2.1).2.2.2.1).2 with
   |false=>rw[hp] at h;cases h
   |true=>rfl
 rw[zF k4,zD] at h hz⊢
 by_cases k5:q.1=5
 ·rw[zT k5,zC] at h hz⊢
  cases hp:(zx q.2.2.2.2.1 t).2 with
  |false=>rw[hp] at h;cases h
  |true=>rfl
 ·rw[zF k5,zD] at hz;exact absurd rfl hz
theorem C7{l:List aO}{v:aO}:v∈bZ l↔v∈l/\v.1≠0:=by
 unfold bZ
 rw[List.mem_filter]
 simp
section
variable {m:Map} {a b:zf}
theorem dL.iq(h:dL m a b):m.2.1.Pairwise fun x y=>lq x y=false:=(zh2 h.sJ).1
theorem dL.okA(h:dL m a b):gh a:=(sO a).1 h.sa
theorem dL.okB(h:dL m a b):gh b:=(sO b).1 h.sb
theorem dL.to(h:dL m a b){r:aS}(hr:r∈m.2.1)(k:r.1≠2):bp b r.2.2.1=true:=(zgl (M6 (h.rules r hr)).2.1).2.2.2 k
theorem dL.MK(h:dL m a b){r:aS}(hr:r∈m.2.1)(k:r.1≠2):r.2.2.1≠0:=by
 have:=BP h.okB (h.to hr k)
 omega
theorem z159(h:dL m a b):∀{l ys:List aO},iJ l->jz m b l= .inr ys->iN (bZ ys)
 | [],ys,_,hy=>by cases hy;exact List.Pairwise.nil
 |v::r,ys,hr,hy=>by
  rw[jz] at hy
  have hr:=List.pairwise_cons.1 hr
  cases hf:dW m v.1 with
  |none=>rw[hf] at hy;cases hy
  |some q=>
   rw[hf] at hy
   dsimp only at hy
   cases hz:decide ((fy q b v.2.1).2=0) with
   |false=>rw[hz] at hy;cases hy
   |true=>
    rw[hz,Bool.not_true,zD] at hy
    cases hv:jz m b r with
    |inl f=>rw[hv] at hy;cases hy
    |inr zs=>
     rw[hv] at hy
     cases hy
     have ih:=z159 h hr.2 hv
     unfold bZ at ih⊢
     rw[List.filter_cons]
     split
     ·rename_i Td
      have Td:(fy q b v.2.1).1.1≠0:=by simpa using Td
      refine List.pairwise_cons.2 ⟨fun z hzm=> ?_,ih⟩
      obtain⟨z1,z2⟩:=C7.1 hzm
      obtain⟨w,hw,q',hf',h0',rfl⟩:=Kq hv z z1
      obtain⟨a1,a2⟩:=Ky (of_decide_eq_true hz) Td
      obtain⟨b1,b2⟩:=Ky h0' z2
      rw[a2,b2]
      obtain⟨qm,qf⟩:=C5 hf
      obtain⟨qm',qf'⟩:=C5 hf'
      have ap:=hr.1 w hw
      have cg:q≠q':=fun e=>by subst e;omega
      exact zhj (Ic h.iq q qm q' qm' cg) (h.MK qm a1)
     ·exact ih
theorem M1{l:List aS}{v:aO}:v∈iM l↔∃r∈l,r.1=3/\v=(r.2.2.1,r.2.2.2.1,()):=by
 unfold iM
 rw[List.mem_map]
 constructor
 ·rintro⟨r,hr,rfl⟩
  rw[List.mem_filter] at hr
  exact⟨r,hr.1,of_decide_eq_true hr.2,rfl⟩
 ·rintro⟨r,hr,k,rfl⟩
  exact⟨r,List.mem_filter.2 ⟨hr,zT k⟩,rfl⟩
theorem Vy(h:dL m a b):iN (iM m.2.1):=by
 unfold iM
 refine List.pairwise_map.2 ?_
 refine List.Pairwise.imp_of_mem ?_ (h.iq.filter _)
 intro x y hx hy xP
 have hx:=List.mem_filter.1 hx
 have k:x.1=3:=of_decide_eq_true hx.2
 exact zhj xP (h.MK hx.1 (by omega))
theorem V4(h:dL m a b){l ys:List aO}(hl:∀v∈l,bp a v.1=true)(hy:jz m b l= .inr ys):∀c∈iM m.2.1,∀y∈bZ ys,c.1≠y.1:=by
 intro c hc y hym
 obtain⟨r,hr,k,rfl⟩:=M1.1 hc
 obtain⟨y1,y2⟩:=C7.1 hym
 obtain⟨w,hw,q,hf,h0,rfl⟩:=Kq hy y y1
 obtain⟨b1,b2⟩:=Ky h0 y2
 rw[b2]
 obtain⟨qm,qf⟩:=C5 hf
 have hwr:=BP h.okA (hl w hw)
 have hz:=(zgl (M6 (h.rules r hr)).2.1).1 k
 have cg:r≠q:=fun e=>by subst e;omega
 exact zhj (Ic h.iq r hr q qm cg) (h.MK hr (by omega))
theorem zy6(h:dL m a b){l ys:List aO}(hr:iJ l)(hl:∀v∈l,bp a v.1=true)(hy:jz m b l= .inr ys):iN (iM m.2.1++bZ ys):=
 List.pairwise_append.2 ⟨Vy h,z159 h hr hy,V4 h hl hy⟩
theorem zy7(h:dL m a b){l ys:List aO}(hy:jz m b l= .inr ys):∀v∈iM m.2.1++bZ ys,bp b v.1=true:=by
 intro v hv
 rcases List.mem_append.1 hv with hv|hv
 ·obtain⟨r,hr,k,rfl⟩:=M1.1 hv
  exact h.to hr (by omega)
 ·obtain⟨y1,y2⟩:=C7.1 hv
  obtain⟨w,hw,q,hf,h0,rfl⟩:=Kq hy v y1
  obtain⟨b1,b2⟩:=Ky h0 y2
  rw[b2]
  exact h.to (C5 hf).1 b1
end
def mE(vs:List aO):Nat->Nat->List aO
 |0,_=>[]
 |n+1,k=>(vs.filter fun v=>decide (v.1=(k:Int)))++mE vs n (k+1)
theorem MZ{vs:List aO}{v:aO}:∀{n k:Nat},v∈mE vs n k↔v∈vs/\(k:Int)<=v.1/\v.1<((k+n:Nat):Int)
 |0,k=>by simp only[mE,List.not_mem_nil,false_iff];omega
 |n+1,k=>by
  rw[mE,List.mem_append,List.mem_filter,decide_eq_true_eq,MZ]
  constructor
  ·rintro(⟨h1,h2⟩|⟨h1,h2,h3⟩)
   ·exact⟨h1,by omega,by omega⟩
   ·exact⟨h1,by omega,by omega⟩
  ·rintro⟨h1,h2,h3⟩
   by_cases e:v.1=(k:Int)
   ·exact .inl ⟨h1,e⟩
   ·exact .inr ⟨h1,by omega,by omega⟩
theorem zcc{vs:List aO}(h:iN (bZ vs)):∀(n k:Nat),1<=k->iJ (mE vs n k)
 |0,k,_=>List.Pairwise.nil
 |n+1,k,hk=>by
  rw[mE]
  refine List.pairwise_append.2 ⟨?_,zcc h n (k+1) (by omega),fun x hx y hy=> ?_⟩
  ·have e:(vs.filter fun v=>decide (v.1=(k:Int)))=(bZ vs).filter fun v=>decide (v.1=(k:Int)):=by
    unfold bZ
    rw[List.filter_filter]
    congr 1
    funext v
    by_cases hv:v.1=(k:Int)
    ·rw[zT hv,zF (by omega:¬v.1=0)];rfl
    ·rw[zF hv];rfl
   rw[e]
   refine List.Pairwise.imp_of_mem ?_ (h.filter _)
   intro x y hx hy cg
   have h1:=of_decide_eq_true (List.mem_filter.1 hx).2
   have h2:=of_decide_eq_true (List.mem_filter.1 hy).2
   omega
  ·have h1:=of_decide_eq_true (List.mem_filter.1 hx).2
   have h2:=(MZ.1 hy).2.1
   omega
def Sq(m:Map)(a b:zf)(x:aZ):aZ×bA:=
 bif !decide ((dC m a b).1=0) then(cE,(1,-1,())) else bif !decide ((eU a x).1=0) then(cE,eU a x) else bif !(zx m.1 x.1).2 then(cE,(7,0,()))
 else match jz m b x.2.1 with
  | .inl f=>(cE,f)
  | .inr ys=>(((zx m.1 x.1).1,mE (ys++iM m.2.1) 127 2,()),zw)
theorem zhe(l r:List aO):bZ (l++r)=bZ l++bZ r:=by unfold bZ;rw[List.filter_append]
theorem zhf{m:Map}{a b:zf}(h:dL m a b):bZ (iM m.2.1)=iM m.2.1:=by
 unfold bZ
 refine List.filter_eq_self.2 fun v hv=> ?_
 obtain⟨r,hr,k,rfl⟩:=M1.1 hv
 have:=h.MK hr (by omega)
 simpa using this
theorem zs9{l r:List aO}(h:iN (l++r)):iN (r++l):=by
 obtain⟨h1,h2,h3⟩:=List.pairwise_append.1 h
 exact List.pairwise_append.2 ⟨h2,h1,fun x hx y hy e=>h3 y hy x hx e.symm⟩
theorem YD{m:Map}{a b:zf}(h:dL m a b){l ys:List aO}(hr:iJ l)(hl:∀v∈l,bp a v.1=true)(hy:jz m b l= .inr ys)(t:ByteArray):
 qu (bZ ys) (pX m.2.1 (t,[],()))=(t,mE (ys++iM m.2.1) 127 2,()):=by
 rw[z9q,<-zd0]
 have xy:=zy6 h hr hl hy
 have hs:bZ (ys++iM m.2.1)=bZ ys++iM m.2.1:=by rw[zhe,zhf h]
 refine afb.2 ⟨zmh _ _,?_⟩
 refine Jm (ztc _ List.Pairwise.nil) (zcc (by rw[hs];exact zs9 xy) 127 2 (by omega)) fun v=> ?_
 rw[ztb _ _ xy (fun _ _ w hw=>by cases hw) v,MZ]
 constructor
 ·rintro(hv|hv)
  ·cases hv
  ·have hb:=BP h.okB (zy7 h hy v hv)
   refine⟨?_,by omega,by omega⟩
   rcases List.mem_append.1 hv with hv|hv
   ·exact List.mem_append_right _ hv
   ·exact List.mem_append_left _ (C7.1 hv).1
 ·rintro⟨hv,h1,h2⟩
  right
  rcases List.mem_append.1 hv with hv|hv
  ·exact List.mem_append_right _ (C7.2 ⟨hv,by omega⟩)
  ·exact List.mem_append_left _ hv
theorem ztm(m:Map)(a b:zf)(x:aZ):mw m a b x=Sq m a b x:=by
 unfold mw Sq
 by_cases h1:(dC m a b).1=0
 ·rw[zT h1,Bool.not_true,zD,zD]
  by_cases h2:(eU a x).1=0
  ·rw[zT h2,Bool.not_true,zD,zD]
   cases(zx m.1 x.1).2 with
   |false=>rfl
   |true=>
    rw[Bool.not_true,zD,zD]
    obtain⟨g1,g2,g3⟩:=tc.1 (z93.1 h2).gx
    rcases z9t m b x.2.1 (pX m.2.1 ((zx m.1 x.1).1,[],())) with⟨f,o,e1,e2⟩|⟨ys,e1,e2⟩
    ·rw[e1,e2]
    ·rw[e1,e2]
     dsimp only
     rw[YD (zog.1 h1) g2 (fun v hv=>(g1 v hv).1) e2]
  ·rw[zF h2];rfl
 ·rw[zF h1];rfl
end bu

namespace bu
open Go.IntKind renaming wrap->zW,i64->zI,u8->zU
open Go Go.Ref
abbrev G9:Ty:= .pair (.int .i64) (.pair (.int .i64) (.pair (.int .i64) (.pair (.int .i64) (.pair (.int .i64) .unit))))
abbrev afl:Ty:= .pair (.int .i64) (.pair (.int .i64) (.pair (.sl 0 G9) .unit))
abbrev x8:Ty:= .pair .str (.pair .str .unit)
abbrev G8:Ty:= .pair (.int .i64) (.pair (.int .i64) (.pair (.int .i64) (.pair .str (.pair (.sl 0 x8) .unit))))
abbrev G7:Ty:= .pair (.sl 0 x8) (.pair (.sl 0 G8) .unit)
def small(n:Nat)(l:List bK):Bool:=l.all fun p=> !decide ((n:Int)<(p.1.size:Int))&& !decide ((n:Int)<(p.2.1.size:Int))
theorem Il{n:Nat}{l:List bK}(hn:n<=1200)(h:small n l=true):∀p∈l,p.1.size<=1099511627776/\p.2.1.size<=1099511627776:=fun p hp=>by
 have:=List.all_eq_true.1 h p hp
 simp only[Bool.and_eq_true,Bool.not_eq_true',decide_eq_false_iff_not] at this
 omega
def grR(t:Bool):Option (Sum Bool Unit):=some (bif t then .inr () else .inl true)
theorem J3:∀(l:List bK) (i:Int),bc (fun i (p:bK) (s:Unit) K=>bif(decide (1200<((p.1).size:Int))) then some (Sum.inl true) else(bif(decide (1200<((p.2.1).size:Int))) then some (Sum.inl true) else K s)) (fun _=>some (Sum.inr ())) l i ()=grR (small 1200 l)
 | [],i=>rfl
 |p::r,i=>by
  simp only[bc,small,List.all_cons]
  by_cases h1:(1200:Int)<(p.1.size:Int)
  ·rw[zT h1,zT (show((1200:Nat):Int)<(p.1.size:Int) from h1)];rfl
  ·rw[zF h1,zF (show¬((1200:Nat):Int)<(p.1.size:Int) from h1)]
   by_cases h2:(1200:Int)<(p.2.1.size:Int)
   ·rw[zT h2,zT (show((1200:Nat):Int)<(p.2.1.size:Int) from h2)];rfl
   ·rw[zF h2,zF (show¬((1200:Nat):Int)<(p.2.1.size:Int) from h2)]
    exact J3 r (i+1)
def wg(r:aS):Bool:=decide ((1200:Int)<(r.2.2.2.1.size:Int))||(decide ((300:Int)<(r.2.2.2.2.1.length:Int))|| !small 1200 r.2.2.2.2.1)
theorem Wj(r:aS)(h:r.2.2.2.2.1.length<=maxLen):mL r=some (wg r):=by
 unfold mL NS wg
 cases decide ((1200:Int)<(r.2.2.2.1.size:Int)) with
 |true=>rfl
 |false=>
  cases decide ((300:Int)<(r.2.2.2.2.1.length:Int)) with
  |true=>rfl
  |false=>
   simp only[zD,Bool.false_or]
   have:=l5 ju r.2.2.2.2.1 h (fun i (p:bK) (s:Unit) K=>bif(decide (1200<((p.1).size:Int))) then some (Sum.inl true) else(bif(decide (1200<((p.2.1).size:Int))) then some (Sum.inl true) else K s)) (fun _=>some (Sum.inr ()))
    (fun k i s=>vM k i r) (fun k i s h0 h1=>by
      show vM (k+1) i r=_
      conv=>lhs;unfold vM KP
      rw[zT h1,zC,zm h0 h1,zm h0 h1]
      rfl) (fun k s=>by
      show vM (k+1) r.2.2.2.2.1.length r=_
      conv=>lhs;unfold vM KP
      rw[zF (by omega),zD]) ()
   rw[this,J3]
   unfold grR
   cases small 1200 r.2.2.2.2.1<;>rfl
theorem Y8{r:aS}(h:wg r=false):gP r:=by
 unfold wg at h
 simp only[Bool.or_eq_false_iff,decide_eq_false_iff_not,Bool.not_eq_false'] at h
 obtain⟨h1,h2,h3⟩:=h
 exact⟨by omega,by omega,Il (by omega) h3⟩
theorem J2(m:Map):∀(l:List bK) (i:Int),bc (fun i (p:bK) (s:Unit) K=>bif(decide (100<((p.1).size:Int))) then some (Sum.inl (true,m)) else(bif(decide (100<((p.2.1).size:Int))) then some (Sum.inl (true,m)) else K s)) (fun _=>some (Sum.inr m)) l i ()=some (bif small 100 l then .inr m else .inl (true,m))
 | [],i=>rfl
 |p::r,i=>by
  simp only[bc,small,List.all_cons]
  by_cases h1:(100:Int)<(p.1.size:Int)
  ·rw[zT h1,zT (show((100:Nat):Int)<(p.1.size:Int) from h1)];rfl
  ·rw[zF h1,zF (show¬((100:Nat):Int)<(p.1.size:Int) from h1)]
   by_cases h2:(100:Int)<(p.2.1.size:Int)
   ·rw[zT h2,zT (show((100:Nat):Int)<(p.2.1.size:Int) from h2)];rfl
   ·rw[zF h2,zF (show¬((100:Nat):Int)<(p.2.1.size:Int) from h2)]
    exact J2 m r (i+1)
theorem J1:∀(l:List aS) (i:Int),(∀r∈l,r.2.2.2.2.1.length<=maxLen)->bc (fun i (x:aS) (s:Unit) K=>((mL x).bind fun r1=>(bif r1 then some (Sum.inl true) else K s))) (fun _=>some (Sum.inr ())) l i ()=some (bif l.any wg then Sum.inl true else Sum.inr ())
 | [],i,_=>rfl
 |r::l,i,h=>by
  simp only[bc,List.any_cons]
  rw[Wj r (h r List.mem_cons_self),Option.bind_some]
  cases wg r with
  |true=>rfl
  |false=>exact J1 l (i+1) fun q hq=>h q (List.mem_cons_of_mem _ hq)
def yA(m:Map):Bool:=decide ((300:Int)<(m.1.length:Int))||(decide ((300:Int)<(m.2.1.length:Int))||(!small 100 m.1||m.2.1.any wg))
theorem Wk(m:Map)(h1:m.1.length<=maxLen)(h2:m.2.1.length<=maxLen)(h3:∀r∈m.2.1,r.2.2.2.2.1.length<=maxLen):kA m=some (yA m):=by
 unfold kA NV yA
 cases decide ((300:Int)<(m.1.length:Int)) with
 |true=>rfl
 |false=>
  cases decide ((300:Int)<(m.2.1.length:Int)) with
  |true=>rfl
  |false=>
   simp only[zD,Bool.false_or]
   have e1:=l5 ju m.1 h1 (fun i (p:bK) (s:Unit) K=>bif(decide (100<((p.1).size:Int))) then some (Sum.inl (true,m)) else(bif(decide (100<((p.2.1).size:Int))) then some (Sum.inl (true,m)) else K s)) (fun _=>some (Sum.inr m))
    (fun k i s=>vN k i m) (fun k i s h0 h1=>by
      show vN (k+1) i m=_
      conv=>lhs;unfold vN KR
      rw[zT h1,zC,zm h0 h1,zm h0 h1]
      rfl) (fun k s=>by
      show vN (k+1) m.1.length m=_
      conv=>lhs;unfold vN KR
      rw[zF (by omega),zD]) ()
   rw[e1,J2]
   cases small 100 m.1 with
   |false=>rfl
   |true=>
    simp only[zC,Option.bind_some,Sum.elim_inr,Bool.not_true,Bool.false_or]
    unfold NW
    have e2:=cm gI m.2.1 h2 (fun i (x:aS) (s:Unit) K=>((mL x).bind fun r1=>(bif r1 then some (Sum.inl true) else K s))) (fun _=>some (Sum.inr ()))
     (fun k i s=>KQ k i m) (fun k i s=>rfl) ()
    dsimp only
    rw[e2,J1 _ _ h3]
    cases m.2.1.any wg<;>rfl
theorem zz7{m:Map}(h:yA m=false):eE m:=by
 unfold yA at h
 simp only[Bool.or_eq_false_iff,decide_eq_false_iff_not,Bool.not_eq_false'] at h
 obtain⟨h1,h2,h3,h4⟩:=h
 refine⟨⟨by omega,Il (by omega) h3⟩,by omega,fun r hr=>Y8 ?_⟩
 cases hg:wg r with
 |false=>rfl
 |true=>rw[List.any_eq_true.2 ⟨r,hr,hg⟩] at h4;cases h4
theorem z157{m:Map}(h:Wf G7 m):kA m=some (yA m):=
 Wk m h.1.1 h.2.1.1 fun r hr=>(h.2.1.2 r hr).2.2.2.2.1.1
theorem V1{r:aS}{b:zf}{t:ByteArray}(ht:t.size<=1099511627776)(hr:gP r):(fy r b t).1.2.1.size<=1099511627776:=by
 have h0:(bs []).size<=1099511627776:=by decide
 unfold fy
 cases decide (r.1=1) with
 |true=>exact ht
 |false=>
  rw[zD]
  cases decide (r.1=2) with
  |true=>exact h0
  |false=>
   rw[zD]
   cases decide (r.1=3) with
   |true=>exact hr.text
   |false=>
    rw[zD]
    cases decide (r.1=4) with
    |true=>
     rw[zC]
     cases bp b r.2.2.1 with
     |false=>exact h0
     |true=>
      rw[Bool.not_true,zD]
      cases hp:(eV t (aN b r.2.2.1).2.2.2.1).2 with
      |false=>exact h0
      |true=>
       obtain⟨p1,p2,p3,p4⟩:=Ji hp
       show(eV t (aN b r.2.2.1).2.2.2.1).1.size<=_
       omega
    |false=>
     rw[zD]
     cases decide (r.1=5) with
     |true=>
      rw[zC]
      cases hp:(zx r.2.2.2.2.1 t).2 with
      |false=>exact h0
      |true=>
       obtain⟨p,hm,_,hq⟩:=zc4 hp
       show(zx r.2.2.2.2.1 t).1.size<=_
       rw[hq]
       exact(hr.iq.sz p hm).2
     |false=>exact h0
theorem zgp{m:Map}{b:zf}:∀{l:List aO} {f:bA},jz m b l= .inl f->f.1≠0
 | [],f,h=>by cases h
 |v::r,f,h=>by
  rw[jz] at h
  cases hf:dW m v.1 with
  |none=>rw[hf] at h;cases h;exact(by decide:(9:Int)≠0)
  |some q=>
   rw[hf] at h
   dsimp only at h
   by_cases hz:(fy q b v.2.1).2=0
   ·rw[zT hz,Bool.not_true,zD] at h
    cases hr:jz m b r with
    |inl g=>rw[hr] at h;cases h;exact zgp hr
    |inr ys=>rw[hr] at h;cases h
   ·rw[zF hz,Bool.not_false,zC] at h
    cases h;exact hz
structure bU(m:Map)(a b:zf)(x:aZ)(ys:List aO):Prop where
 map:dL m a b
 msg:eO a x
 head:(zx m.1 x.1).2=true
 sL:jz m b x.2.1= .inr ys
theorem zmp(m:Map)(a b:zf)(x:aZ):(∃f,f.1≠0/\mw m a b x=(cE,f))\/∃ys,bU m a b x ys/\mw m a b x=(((zx m.1 x.1).1,mE (ys++iM m.2.1) 127 2,()),zw):=by
 rw[ztm]
 unfold Sq
 by_cases h1:(dC m a b).1=0
 ·rw[zT h1,Bool.not_true,zD]
  by_cases h2:(eU a x).1=0
  ·rw[zT h2,Bool.not_true,zD]
   cases h3:(zx m.1 x.1).2 with
   |false=>exact .inl ⟨_,by decide,rfl⟩
   |true=>
    rw[Bool.not_true,zD]
    cases h4:jz m b x.2.1 with
    |inl f=>exact .inl ⟨f,zgp h4,rfl⟩
    |inr ys=>exact .inr ⟨ys,⟨zog.1 h1,z93.1 h2,h3,h4⟩,rfl⟩
  ·rw[zF h2];exact .inl ⟨_,h2,rfl⟩
 ·rw[zF h1];exact .inl ⟨_,by decide,rfl⟩
theorem bU.eq{m:Map}{a b:zf}{x:aZ}{ys:List aO}(h:bU m a b x ys):mw m a b x=(((zx m.1 x.1).1,mE (ys++iM m.2.1) 127 2,()),zw):=by
 rw[ztm]
 unfold Sq
 rw[zT (zog.2 h.map),Bool.not_true,zD,zT (z93.2 h.msg),Bool.not_true,zD,h.head,h.sL]
 rfl
section
variable {m:Map} {a b:zf} {x:aZ} {ys:List aO}
theorem bU.gx(h:bU m a b x ys):(∀v∈x.2.1,bp a v.1=true/\aY (aN a v.1) v.2.1=0)/\iJ x.2.1/\∀v∈x.2.1,0<v.1:=tc.1 h.msg.gx
theorem bU.ris(h:bU m a b x ys):iJ (mE (ys++iM m.2.1) 127 2):=by
 obtain⟨g1,g2,g3⟩:=h.gx
 refine zcc ?_ 127 2 (by omega)
 rw[zhe,zhf h.map]
 exact zs9 (zy6 h.map g2 (fun v hv=>(g1 v hv).1) h.sL)
theorem bU.mem(h:bU m a b x ys)(v:aO):v∈mE (ys++iM m.2.1) 127 2↔v∈iM m.2.1\/(v∈ys/\v.1≠0):=by
 rw[MZ,List.mem_append]
 have hr:=zy7 h.map h.sL
 constructor
 ·rintro⟨h1|h1,h2,h3⟩
  ·exact .inr ⟨h1,by omega⟩
  ·exact .inl h1
 ·rintro(h1|⟨h1,h2⟩)
  ·have:=BP h.map.okB (hr v (List.mem_append_left _ h1))
   exact⟨.inr h1,by omega,by omega⟩
  ·have:=BP h.map.okB (hr v (List.mem_append_right _ (C7.2 ⟨h1,h2⟩)))
   exact⟨.inl h1,by omega,by omega⟩
theorem bU.valid(h:bU m a b x ys)(hm:eE m)(hx:dm x):∀v∈mE (ys++iM m.2.1) 127 2,bp b v.1=true/\v.2.1.size<=1099511627776/\aY (aN b v.1) v.2.1=0:=by
 intro v hv
 obtain⟨g1,g2,g3⟩:=h.gx
 rcases(h.mem v).1 hv with hv|⟨hv,hz⟩
 ·obtain⟨r,hr,k,rfl⟩:=M1.1 hv
  have hc:=(M6 (h.map.rules r hr)).2.2.2
  unfold kh at hc
  rw[zF (by omega:¬r.1=1),zT k,zD,zC] at hc
  exact⟨h.map.to hr (by omega),(hm.rules r hr).text,hc⟩
 ·obtain⟨w,hw,q,hf,h0,rfl⟩:=Kq h.sL v hv
  obtain⟨b1,b2⟩:=Ky h0 hz
  obtain⟨qm,qf⟩:=C5 hf
  have hwt:=hx.mh w hw
  have:=(V2 (r:=q) (a:=a) (b:=b) hwt (hm.rules q qm) (h.map.rules q qm) h.map.okB (fun _=>by rw[qf];exact(g1 w hw).2)).2 h0
  obtain⟨e1,e2,e3⟩:=this.2 b1
  rw[b2]
  exact⟨e2,V1 hwt (hm.rules q qm),e3⟩
theorem ZR{t:ByteArray}{v:Int}(h:mj t v=true):fI t=true/\dk t=v:=by
 unfold mj at h
 rw[Bool.and_eq_true,decide_eq_true_eq] at h
 refine⟨h.1,?_⟩
 unfold dk
 rw[h.1];exact h.2
theorem bU.oN(h:bU m a b x ys):fI (zx m.1 x.1).1=true/\dk (zx m.1 x.1).1=b.2.1:=by
 obtain⟨p,hp,_,e⟩:=zc4 h.head
 have ht:=h.map.typed p hp
 unfold yD at ht
 rw[Bool.and_eq_true,Bool.and_eq_true] at ht
 rw[e]
 exact ZR ht.2.1
theorem bU.out(h:bU m a b x ys)(hm:eE m)(hx:dm x):eO b ((zx m.1 x.1).1,mE (ys++iM m.2.1) 127 2,()):=by
 have hv:=h.valid hm hx
 refine⟨h.map.sb,h.oN.1,h.oN.2,tc.2 ⟨fun v hm=>⟨(hv v hm).1,(hv v hm).2.2⟩,h.ris,fun v hm=> ?_⟩⟩
 have:=BP h.map.okB (hv v hm).1
 omega
end
theorem zxz:∀{l:List aO} {lo:Int},iJ l->(∀v∈l,lo<v.1/\v.1<=128)->(l.length:Int)<=max 0 (128-lo)
 | [],lo,_,_=>by simp;omega
 |x::r,lo,h,hr=>by
  have h:=List.pairwise_cons.1 h
  have hx:=hr x List.mem_cons_self
  have:=zxz (l:=r) (lo:=x.1) h.2 (fun v hv=>⟨h.1 v hv,(hr v (List.mem_cons_of_mem _ hv)).2⟩)
  simp only[List.length_cons]
  omega
theorem bU.ok{m:Map}{a b:zf}{x:aZ}{ys:List aO}(h:bU m a b x ys)(hm:eE m)(hx:dm x):dm ((zx m.1 x.1).1,mE (ys++iM m.2.1) 127 2,()):=by
 have hv:=h.valid hm hx
 refine⟨?_,?_,fun v mB=>(hv v mB).2.1⟩
 ·have:=(nq.1 h.oN.1).1
  show(zx m.1 x.1).1.size<=_
  omega
 ·have:=zxz (lo:=0) h.ris (fun v mB=>by have:=BP h.map.okB (hv v mB).1;omega)
  show(mE (ys++iM m.2.1) 127 2).length<=_
  omega
def F3(m:Map)(b:zf)(v:aO):Prop:=∃q,dW m v.1=some q/\(fy q b v.2.1).2=0
theorem M3{m:Map}{b:zf}:∀{l:List aO},(∃ys,jz m b l= .inr ys)↔∀v∈l,F3 m b v
 | []=>⟨fun _ v hv=>(by cases hv),fun _=>⟨[],rfl⟩⟩
 |v::r=>by
  rw[jz]
  constructor
  ·rintro⟨ys,h⟩ w hw
   cases hf:dW m v.1 with
   |none=>rw[hf] at h;cases h
   |some q=>
    rw[hf] at h
    dsimp only at h
    cases hz:decide ((fy q b v.2.1).2=0) with
    |false=>rw[hz] at h;cases h
    |true=>
     rw[hz,Bool.not_true,zD] at h
     rcases List.mem_cons.1 hw with rfl|hw
     ·exact⟨q,hf,of_decide_eq_true hz⟩
     ·cases hr:jz m b r with
      |inl g=>rw[hr] at h;cases h
      |inr zs=>exact M3.1 ⟨zs,hr⟩ w hw
  ·intro h
   obtain⟨q,hf,hz⟩:=h v List.mem_cons_self
   obtain⟨zs,hr⟩:=M3.2 fun w hw=>h w (List.mem_cons_of_mem _ hw)
   rw[hf,hr]
   dsimp only
   rw[zT hz]
   exact⟨_,rfl⟩
theorem bU.part{m:Map}{a b:zf}{x:aZ}{ys:List aO}(h:bU m a b x ys){l:List aO}(hl:List.Sublist l x.2.1):∃zs,bU m a b (x.1,l,()) zs:=by
 obtain⟨g1,g2,g3⟩:=h.gx
 obtain⟨zs,hz⟩:=M3.2 fun v hv=>M3.1 ⟨ys,h.sL⟩ v (hl.subset hv)
 exact⟨zs,h.map,⟨h.msg.gV,h.msg.right,h.msg.ML,tc.2 ⟨fun v hv=>g1 v (hl.subset hv),g2.sublist hl,fun v hv=>g3 v (hl.subset hv)⟩⟩,h.head,hz⟩
end bu

namespace bu
open Go.IntKind renaming wrap->zW,i64->zI,u8->zU
open Go Go.Ref
def dj(style:Int)(m:ByteArray):ByteArray:=if style=1 then m else(mD m).1
def dp(s:zf):List aO->ByteArray
 | []=>bs []
 |v::r=>(lm s.1 (aN s v.1) v.2.1).1++dp s r
def cf(m:aZ):List Int:=m.2.1.map fun v=>v.1
def cJ(s:zf)(m:aZ):ByteArray:=dj s.1 m.1++(b7 s.1 (bz (cf m)) (bI (cf m))).1++dp s m.2.1
theorem Zf(m:aZ)(h:m.2.1.length<=1000000):qG m=some ((bz (cf m):Int),(bI (cf m):Int),()):=by
 unfold qG Oh
 dsimp only
 have key:∀(l:List aO) (i:Int) (p:List Int),bc (fun i (x:aO) (b:tE) K=>(wy b x.1).bind fun r1=>K r1) (fun b=>some (((0:Int),(0:Int),()),b)) l i ((bz p:Int),(bI p:Int),())=some (((0:Int),(0:Int),()),((bz (p++l.map fun v=>v.1):Int),(bI (p++l.map fun v=>v.1):Int),())):=by
  intro l
  induction l with
  |nil=>intro i p;rw[List.map_nil,List.append_nil];rfl
  |cons x r ih=>
   intro i p
   rw[bc,IZ _ _ (lp p) (mr p),zc]
   have e1:bz p|||gn x.1=bz (p++ [x.1]):=by unfold bz;rw[List.foldl_append];rfl
   have e2:bI p|||gu x.1=bI (p++ [x.1]):=by unfold bI;rw[List.foldl_append];rfl
   rw[e1,e2]
   dsimp only
   rw[ih (i+1) (p++ [x.1]),List.map_cons,List.append_assoc];rfl
 have:=cm gY m.2.1 (by rw[zj];omega) (fun i (x:aO) (b:tE) K=>(wy b x.1).bind fun r1=>K r1) (fun b=>some (((0:Int),(0:Int),()),b)) (fun k i b=>KY k m.2.1 (m.2.1.length:Int) i ((0:Int),(0:Int),()) b) (fun k i b=>rfl) ((0:Int),(0:Int),())
 rw[this]
 have k2:=key m.2.1 0 []
 rw[show bz []=0 from rfl,show bI []=0 from rfl] at k2
 rw[show((0:Nat):Int)=0 from rfl] at k2
 rw[k2];rfl
theorem VG(m:aZ)(h:m.2.1.length<=1000000):qz m=some (cf m):=by
 unfold qz NK
 dsimp only
 have key:∀(l:List aO) (i:Int) (p:List Int),p.length+l.length<=1000000->bc (fun i (x:aO) (o:List Int) K=>bif decide ((o.length+([x.1]:List Int).length)*8<=140737488355328) then K (o++ [x.1]) else none) (fun o=>some o) l i p=some (p++l.map fun v=>v.1):=by
  intro l
  induction l with
  |nil=>intro i p _;rw[List.map_nil,List.append_nil];rfl
  |cons x r ih=>
   intro i p hp
   rw[List.length_cons] at hp
   rw[bc,zT (by simp only[List.length_singleton];omega),zC]
   dsimp only
   rw[ih (i+1) (p++ [x.1]) (by rw[List.length_append,List.length_singleton];omega),List.map_cons,List.append_assoc];rfl
 have:=cm gY m.2.1 (by rw[zj];omega) (fun i (x:aO) (o:List Int) K=>bif decide ((o.length+([x.1]:List Int).length)*8<=140737488355328) then K (o++ [x.1]) else none) (fun o=>some o) (fun k i o=>KM k o i m) (fun k i o=>rfl) []
 rw[this,key m.2.1 0 [] (by simpa using h)]
 rfl
theorem zhk(style:Int)(m:ByteArray):(dj style m).size<=m.size+500:=by
 unfold dj
 split
 ·omega
 ·have:=zg2 m;omega
theorem zc9(style:Int)(h l:Nat):(b7 style h l).1.size<=32:=by
 have hz:c8 style<=16:=by unfold c8;split<;>omega
 unfold b7
 split
 ·dsimp only
  split
  ·rw[yg];omega
  ·rw[zu,yg,yg];omega
 ·exact Nat.zero_le _
theorem z8x(style:Int)(s:Spec)(t:ByteArray):(lm style s t).1.size<=2*t.size+1000:=by
 unfold lm
 split
 ·exact Nat.zero_le _
 ·split
  ·exact Nat.zero_le _
  ·dsimp only
   rw[zu]
   have:=zh4 style s.2.2.1 t.size
   have:=zgd (bG style s.2.1) t
   omega
theorem zz0(s:zf):∀l:List aO,(∀v∈l,v.2.1.size<=1000)->(dp s l).size<=3000*l.length
 | [],_=>Nat.zero_le _
 |v::r,h=>by
  have h1:=zz0 s r fun w hw=>h w (List.mem_cons_of_mem _ hw)
  have h2:=z8x s.1 (aN s v.1) v.2.1
  have h3:=h v List.mem_cons_self
  rw[dp,zu,List.length_cons]
  omega
structure dR(m:aZ):Prop where
 oN:m.1.size<=1000
 len:m.2.1.length<=1000
 mh:∀v∈m.2.1,v.2.1.size<=1000
theorem dR.ok{m:aZ}(h:dR m):dm m:=⟨by have:=h.oN;omega,by have:=h.len;omega,fun v hv=>by have:=h.mh v hv;omega⟩
theorem YZ{s:zf}{m:aZ}(h:dR m):(cJ s m).size<=3002000:=by
 have:=zz0 s m.2.1 h.mh
 have:=zhk s.1 m.1
 have:=zc9 s.1 (bz (cf m)) (bI (cf m))
 have:=h.oN
 have:=h.len
 unfold cJ
 rw[zu,zu]
 omega
theorem zt6{s:zf}{m:aZ}(hm:dm m)(h:eO s m):dR m:=by
 have ho:=(sO s).1 h.gV
 obtain⟨f1,f2,f3⟩:=tc.1 h.gx
 refine⟨by have:=(nq.1 h.right).1;omega,?_,fun v hv=> ?_⟩
 ·have:=zxz (lo:=0) f2 (fun v hv=>by
   have:=Nv (Nf ho (f1 v hv).1)
   have e:=(Nr (f1 v hv).1).2
   rw[e] at this
   exact⟨by omega,by omega⟩)
  omega
 ·obtain⟨v1,v2,v3,_,_⟩:=(yl _ _ (hm.mh v hv)).1 (f1 v hv).2
  have:=yt v1
  omega
theorem zy3{x o:ByteArray}(h:o.size+x.size<=140737488355328):iR x o=some (o++x):=by
 unfold iR Pz MP
 rw[zT h,zC,zc]
theorem HL(s:zf)(hs:s.2.2.1.length<=maxLen)(f:bA):∀(l:List aO) (i:Int) (o:ByteArray),(∀v∈l,v.2.1.size<=1000)->o.size+3000*l.length<=100000000->
 bc (fun i (x:aO) (o:ByteArray) K=>(eP s x.1).bind fun r7=>(yI s.1 r7.1 x.2.1).bind fun r8=>(iR r8.1 o).bind fun r9=>K r9) (fun o=>some (f,o)) l i o=some (f,o++dp s l)
 | [],i,o,_,_=>by rw[dp,PW];rfl
 |x::r,i,o,h,ho=>by
  have hx:=h x List.mem_cons_self
  have hc:=z8x s.1 (aN s x.1) x.2.1
  rw[List.length_cons] at ho
  rw[bc,vG s _ hs,zc,Ws _ _ _ (by omega),zc]
  dsimp only
  rw[zy3 (by omega),zc]
  rw[HL s hs f r (i+1) _ (fun v hv=>h v (List.mem_cons_of_mem _ hv)) (by rw[zu];omega),dp,ByteArray.append_assoc]
theorem ac9(style:Int)(m:ByteArray)(hm:fI m=true)(hs:style=1\/style=2):∃k,q7 style m=some (dj style m,k):=by
 have h4:=(nq.1 hm).1
 unfold q7 PA dj
 rw[z9w m (by rw[zj];omega),zc,hm,Bool.not_true,zD]
 rcases hs with rfl|rfl
 ·exact⟨true,rfl⟩
 ·rw[zF (by decide),zD,zT rfl,zC,zg1 m (by rw[zj];omega),zc,if_neg (by decide)]
  exact⟨_,rfl⟩
def oT(s:zf)(m:aZ):ByteArray×bA:=if(eU s m).1=0 then(cJ s m,zw) else(bs [],eU s m)
theorem zy4(s:zf)(m:aZ)(hs:s.2.2.1.length<=maxLen)(h:dm m):mS s m=some (oT s m):=by
 unfold mS Py oT
 rw[zmf s m hs h,zc]
 by_cases h0:(eU s m).1=0
 case neg=>rw[zF h0,if_neg h0];rfl
 have hm:=z93.1 h0
 have ng:=zt6 h hm
 have ho:=(sO s).1 hm.gV
 obtain⟨k,hk⟩:=ac9 s.1 m.1 hm.right ho.1
 have ht:=zhk s.1 m.1
 have hb:=zc9 s.1 (bz (cf m)) (bI (cf m))
 have:=ng.oN
 have:=ng.len
 rw[zT h0,Bool.not_true,zD,if_pos h0,hk,zc,Zf m (by omega)]
 have w1:iR (dj s.1 m.1) (bs [])=some (dj s.1 m.1):=by
  rw[zy3 (by show 0+_<=_;omega),Sh]
 have w2:iR (b7 s.1 (bz (cf m)) (bI (cf m))).1 (dj s.1 m.1)=some (dj s.1 m.1++(b7 s.1 (bz (cf m)) (bI (cf m))).1):=zy3 (by omega)
 dsimp only
 rw[w1,zc,zc,abZ _ _ _ (lp _) (mr _),zc,w2,zc]
 have hl:=cm gY m.2.1 (by rw[zj];omega) (fun i (x:aO) (o:ByteArray) K=>(eP s x.1).bind fun r7=>(yI s.1 r7.1 x.2.1).bind fun r8=>(iR r8.1 o).bind fun r9=>K r9) (fun o=>some (zw,o)) (fun k i o=>Ld k m.2.1 (m.2.1.length:Int) i s zw o) (fun k i o=>rfl) (dj s.1 m.1++(b7 s.1 (bz (cf m)) (bI (cf m))).1)
 rw[hl,HL s hs _ m.2.1 0 _ ng.mh (by rw[zu];omega)]
 rfl
theorem zyk(s:zf)(m:aZ)(hs:s.2.2.1.length<=maxLen)(hm:eO s m)(ng:dR m):∀(l:List aO) (i:Int) (o:ByteArray),(∀v∈l,v∈m.2.1)->o.size+3000*l.length<=100000000->
 bc (fun i (x:aO) (o:ByteArray) K=>(yS s.1 (aN s x.1) x.2.1).bind fun r5=>bif decide (o.size+r5.1.size<=9223372036854775807) then K (o++r5.1) else none) (fun o=>some o) l i o=some (o++dp s l)
 | [],i,o,_,_=>by rw[dp,PW];rfl
 |x::r,i,o,h,ho=>by
  have hx:=ng.mh x (h x List.mem_cons_self)
  have hc:=z8x s.1 (aN s x.1) x.2.1
  rw[List.length_cons] at ho
  rw[bc,aag _ _ _ (by omega),zc,zT (by omega),zC]
  dsimp only
  rw[zyk s m hs hm ng r (i+1) _ (fun v hv=>h v (List.mem_cons_of_mem _ hv)) (by rw[zu];omega),dp,ByteArray.append_assoc]
theorem Z1(s:zf)(m:aZ)(hs:s.2.2.1.length<=maxLen)(hm:eO s m)(ng:dR m):pc s m=some (cJ s m):=by
 have ho:=(sO s).1 hm.gV
 have ht:=zhk s.1 m.1
 have hb:=zc9 s.1 (bz (cf m)) (bI (cf m))
 have:=ng.oN
 have:=ng.len
 unfold pc NM
 have hT:qA s.1 m.1=some (dj s.1 m.1):=by
  unfold qA NN dj
  by_cases h1:s.1=1
  ·rw[zT h1,if_pos h1];rfl
  ·rw[zF h1,if_neg h1,zD,zmv _ (by rw[zj];omega)];rfl
 rw[VG m (by omega),zc,aae _ _ (by unfold cf;rw[List.length_map];omega),zc,hT,zc]
 dsimp only
 rw[zT (by omega),zC]
 have hl:=l5 gY m.2.1 (by rw[zj];omega) (fun i (x:aO) (o:ByteArray) K=>(yS s.1 (aN s x.1) x.2.1).bind fun r5=>bif decide (o.size+r5.1.size<=9223372036854775807) then K (o++r5.1) else none) (fun o=>some o) (fun k i o=>vL k o i s m) (fun k i o h0 h1=>by
  show vL (k+1) o i s m=_
  conv=>lhs;unfold vL KN
  have hx:m.2.1.getD i.toNat gY∈m.2.1:=by
   rw[List.getD_eq_getElem?_getD,List.getElem?_eq_getElem (by omega)]
   exact List.getElem_mem _
  obtain⟨f1,_,_⟩:=tc.1 hm.gx
  have hh:=(f1 _ hx).1
  rw[zT h1,zC,zm h0 h1,zd4 s _ hs,zc]
  rcases zgw s (m.2.1.getD i.toNat gY).1 with⟨i1,i2,i3⟩|⟨i1,i2,i3,i4⟩
  ·rw[i2] at hh;cases hh
  ·rw[zm i1 i2,zm h0 h1,i4]) (fun k o=>by
  show vL (k+1) o m.2.1.length s m=_
  conv=>lhs;unfold vL KN
  rw[zF (by omega),zD]) (dj s.1 m.1++(b7 s.1 (bz (cf m)) (bI (cf m))).1)
 rw[hl,zyk s m hs hm ng m.2.1 0 _ (fun v hv=>hv) (by rw[zu];omega),zc]
 rfl
end bu

set_option maxRecDepth 10000
namespace bu
open Go.IntKind renaming wrap->zW,i64->zI,u8->zU
open Go Go.Ref
def c9(style:Int):Nat:=if style=2 then 2 else 4
def du(style:Int)(b:ByteArray):ByteArray:=if style=2 then(gO (b.extract 0 2) 4).1 else b.extract 0 4
def gX(s:zf)(b:ByteArray):Sum Int lI:=
 if b.size<c9 s.1 then .inl 2 else if fI (du s.1 b)=true/\dk (du s.1 b)=s.2.1 then .inr (du s.1 b,c9 s.1) else .inl 7
def dA(s:zf)(b:ByteArray):List Int->Nat->List aO->List aO×bA
 | [],a,o=>(o,if a<b.size then(12,129,()) else zw)
 |no::r,a,o=>if bp s no=false then(o,(9,no,())) else if¬(kr s.1 (aN s no) b a).2.2=0 then(o,((kr s.1 (aN s no) b a).2.2,no,())) else dA s b r (kr s.1 (aN s no) b a).2.1.toNat (o++ [(no,(kr s.1 (aN s no) b a).1,())])
def jM(s:zf)(b t:ByteArray)(g:Nat×Nat×Int×Int):aZ×bA:=
 if¬g.2.2.2=0 then((t,[],()),(g.2.2.2,1,())) else((t,(dA s b (elems g.1 g.2.1) g.2.2.1.toNat []).1,()),(dA s b (elems g.1 g.2.1) g.2.2.1.toNat []).2)
def uP(s:zf)(b:ByteArray):Sum Int lI->aZ×bA
 | .inl e=>(cE,(e,0,()))
 | .inr q=>jM s b q.1 (aU s.1 b q.2)
def cY(s:zf)(b:ByteArray):aZ×bA:=if¬(gd s).1=0 then(cE,(1,-1,())) else uP s b (gX s b)
def AF:Sum Int lI->ByteArray×Int×Int
 | .inl e=>(bs [],0,e)
 | .inr q=>(q.1,(q.2:Int),0)
theorem z105(style:Int)(b:ByteArray):(du style b).size<=2000:=by
 unfold du
 split
 ·generalize hg:gO (b.extract 0 2) 4=g
  obtain⟨t,e,i⟩:=g
  have:=Ko hg
  dsimp only;omega
 ·rw[ByteArray.size_extract];omega
theorem Hk(s:zf)(t:ByteArray)(z:Nat)(ht:t.size<=2000):((iw t).bind fun r3=>(bif(!r3.2) then some (bs [],(0:Int),(7:Int)) else(bif(!(decide (r3.1=s.2.1))) then some (bs [],(0:Int),(7:Int)) else some (t,(z:Int),(0:Int)))))=some (AF (if fI t=true/\dk t=s.2.1 then .inr (t,z) else .inl 7)):=by
 rw[MX t (by rw[zj];omega),zc]
 dsimp only
 cases hr:fI t with
 |false=>rfl
 |true=>
  rw[Bool.not_true,zD]
  by_cases hv:dk t=s.2.1
  ·rw[zT hv,if_pos ⟨rfl,hv⟩];rfl
  ·rw[zF hv,if_neg (fun h=>hv h.2)];rfl
theorem ZQ(s:zf)(b:ByteArray)(hb:b.size<=1099511627776):qV s b=some (AF (gX s b)):=by
 have h4:Q2 4=some 2:=by have:=Ku 4 (by decide) (by decide);exact this
 have e0:((2:Int)).toNat=2:=rfl
 have e4:((4:Int)).toNat=4:=rfl
 have gB:=z105 s.1 b
 unfold qV Pg gX
 by_cases h2:s.1=2
 ·have hz:c9 2=2:=rfl
  have hT:du 2 b=(gO (b.extract 0 2) 4).1:=rfl
  rw[h2] at gB
  simp only[h2,decide_true,zC,h4,zc,e0]
  rw[hz]
  by_cases hc:b.size<2
  ·rw[zT (by omega),if_pos hc];rfl
  ·rw[zF (by omega),zD,zT (by decide),zC,zT (by omega),zC,if_neg hc,zg0 _ _ (by rw[ByteArray.size_extract];omega),zc,<-hT]
   exact Hk s (du 2 b) 2 gB
 ·have hz:c9 s.1=4:=by unfold c9;rw[if_neg h2]
  have hT:du s.1 b=b.extract 0 4:=by unfold du;rw[if_neg h2]
  simp only[h2,decide_false,zD,e4]
  rw[hz]
  by_cases hc:b.size<4
  ·rw[zT (by omega),if_pos hc];rfl
  ·rw[zF (by omega),zD,zT (by omega),zC,if_neg hc,<-hT]
   exact Hk s (du s.1 b) 4 gB
theorem Wc{h l:Nat}{pre r:List Int}{no:Int}(he:elems h l=pre++no::r):gE h l no=r.headD 0:=by
 have hs:=MS h l
 rw[he] at hs
 have hp:=List.pairwise_append.1 hs
 have hq:=List.pairwise_cons.1 hp.2.1
 unfold gE
 rw[he,List.filter_append,List.filter_eq_nil_iff.2 (fun x hx=>by have:=hp.2.2 x hx no List.mem_cons_self;simp;omega),List.nil_append,List.filter_cons_of_neg (by simp),List.filter_eq_self.2 (fun x hx=>by have:=hq.1 x hx;simp;omega)]
theorem WR(h l:Nat):gE h l 0=(elems h l).headD 0:=by
 unfold gE
 rw[List.filter_eq_self.2 (fun x hx=>by have:=zgu ((yh h l x).1 hx);simp;omega)]
theorem Da(h l:Nat):(elems h l).length<=128:=by
 unfold elems
 exact Nat.le_trans (List.length_filter_le _ _) (by rw[acJ];exact Nat.le_refl _)
theorem zyl{style:Int}{s:Spec}{b:ByteArray}{a:Nat}(hb:b.size<=1099511627776)(h:(kr style s b a).2.2=0):(((kr style s b a).2.1.toNat:Nat):Int)=(kr style s b a).2.1:=by
 generalize hg:kr style s b a=g at h⊢
 obtain⟨t,z,e⟩:=g
 dsimp only at h⊢
 subst h
 have:=(zcf hb hg).2.2.1
 omega
def rG(b:ByteArray)(e:Sum (ByteArray×Int×aZ×bA×aZ) (ByteArray×Int×aZ×bA×aZ)):Option (aZ×bA):=Sum.elim (fun we=>some (we.2.2.1,we.2.2.2.1)) (fun we=>bif(decide (we.2.1<(we.1.size:Int))) then some (we.2.2.2.2,((12:Int),(129:Int),())) else some (we.2.2.2.2,zw)) e
theorem zmn(s:zf)(hs:s.2.2.1.length<=maxLen)(b t:ByteArray)(hb:b.size<=1099511627776)(h l:Nat)(hh:h<cz)(hl:l<cz):∀(r pre:List Int) (k a:Nat) (o:List aO),elems h l=pre++r->o.length<=pre.length->r.length<k->
 (B6 k b (a:Int) (r.headD 0) s cE zw (t,o,()) ((h:Int),(l:Int),())).bind (rG b)=some ((t,(dA s b r a o).1,()),(dA s b r a o).2)
 |r,pre,0,a,o,_,_,hk=>by omega
 | [],pre,k+1,a,o,he,ho,hk=>by
   unfold B6 Lc dA
   rw[show([]:List Int).headD 0=0 from rfl,zT (p:=(0:Int)=0) rfl,Bool.not_true,zD,zc]
   unfold rG
   rw[Sum.elim_inr]
   dsimp only
   by_cases hc:a<b.size
   ·rw[zT (by omega),if_pos hc];rfl
   ·rw[zF (by omega),if_neg hc];rfl
 |no::r,pre,k+1,a,o,he,ho,hk=>by
  have fG:no∈elems h l:=by rw[he];exact List.mem_append_right _ List.mem_cons_self
  have rS:=zgu ((yh h l no).1 fG)
  have hlen:=Da h l
  rw[he,List.length_append,List.length_cons] at hlen
  rw[List.length_cons] at hk
  unfold B6 Lc dA
  rw[show(no::r).headD 0=no from rfl,zF (by omega:¬no=0),Bool.not_false,zC,vG s _ hs,zc]
  dsimp only
  cases hf:bp s no with
  |false=>rfl
  |true=>
   rw[Bool.not_true,zD,if_neg (by decide),Wr _ _ _ _ hb,zc]
   by_cases hz:(kr s.1 (aN s no) b a).2.2=0
   case neg=>rw[zF hz,if_pos hz];rfl
   rw[zT hz,Bool.not_true,zD,if_neg (fun h=>h hz),zT (by simp only[List.length_singleton];omega),zC,Ix h l hh hl no (by omega) (by omega),zc,Wc he,<-zyl hb hz]
   exact zmn s hs b t hb h l hh hl r (pre++ [no]) k _ _ (by rw[he,List.append_assoc];rfl) (by rw[List.length_append,List.length_append,List.length_singleton,List.length_singleton];omega) (by omega)
theorem HE{style:Int}{b:ByteArray}{a:Nat}(h:(aU style b a).2.2.2=0):(aU style b a).1<cz/\(aU style b a).2.1<cz/\(((aU style b a).2.2.1.toNat:Nat):Int)=(aU style b a).2.2.1:=by
 generalize hg:aU style b a=g at h⊢
 obtain⟨h',l,z,e⟩:=g
 dsimp only at h⊢
 subst h
 obtain⟨_,q1,q2,q3,_⟩:=HF hg
 exact⟨by show h'<18446744073709551616;omega,q2,by omega⟩
theorem W5(s:zf)(b:ByteArray)(hs:s.2.2.1.length<=maxLen)(hb:b.size<=1099511627776):pr s b=some (cY s b):=by
 unfold pr Pf cY
 rw[KD s hs,zc]
 by_cases h0:(gd s).1=0
 case neg=>rw[zF h0,if_pos h0];rfl
 rw[zT h0,Bool.not_true,zD,if_neg (fun h=>h h0),ZQ s b hb,zc]
 cases ht:gX s b with
 |inl e=>
  have he:e≠0:=by
   unfold gX at ht
   split at ht
   ·cases ht;decide
   ·split at ht
    ·cases ht
    ·cases ht;decide
  exact DQ he
 |inr q=>
  obtain⟨t,z⟩:=q
  refine(CC (p:=(0:Int)=0) rfl).trans ?_
  dsimp only[AF,uP,jM]
  rw[abY _ _ _ hb,zc]
  by_cases he:(aU s.1 b z).2.2.2=0
  case neg=>rw[if_pos he];exact DQ he
  rw[if_neg (fun h=>h he)]
  refine(CC he).trans ?_
  obtain⟨q1,q2,q3⟩:=HE he
  dsimp only[bmR]
  rw[Ix _ _ q1 q2 0 (by decide) (by decide),zc,WR,<-q3]
  exact zmn s hs b t hb _ _ q1 q2 (elems (aU s.1 b z).1 (aU s.1 b z).2.1) [] ae _ [] rfl (Nat.le_refl _) (by have:=Da (aU s.1 b z).1 (aU s.1 b z).2.1;rw[zq];omega)
end bu

set_option maxRecDepth 10000
namespace bu
open Go.IntKind renaming wrap->zW,i64->zI,u8->zU
open Go Go.Ref
theorem ztd(s:zf)(hs:s.2.2.1.length<=maxLen)(b t:ByteArray)(hb:b.size<=1099511627776)(L:List Int)(hL:L.length<=1000):∀(n j k a:Nat) (o:List aO),j+n=L.length->o.length<=j->n<k->
 (z59 k b L (a:Int) (j:Int) s cE zw (t,o,())).bind (rG b)=some ((t,(dA s b (L.drop j) a o).1,()),(dA s b (L.drop j) a o).2)
 |n,j,0,a,o,_,_,hk=>by omega
 |0,j,k+1,a,o,hj,ho,hk=>by
  unfold z59 KO
  rw[zF (by omega),zD,List.drop_eq_nil_of_le (by omega),zc]
  unfold rG dA
  rw[Sum.elim_inr]
  dsimp only
  by_cases hc:a<b.size
  ·rw[zT (by omega),if_pos hc];rfl
  ·rw[zF (by omega),if_neg hc];rfl
 |n+1,j,k+1,a,o,hj,ho,hk=>by
  have ap:j<L.length:=by omega
  have hw:∀{R:Type} (z:Option R),zd (j:Int) L.length z=z:=fun z=>zi ap
  unfold z59 KO
  rw[zT (by omega),zC,List.drop_eq_getElem_cons ap,dA]
  simp only[hw,HT ap]
  rw[zd4 s _ hs,zc]
  rcases zgw s L[j] with⟨i1,i2,i3⟩|⟨i1,i2,i3,i4⟩
  ·rw[i1,zT (by decide),zC,if_pos i2];rfl
  ·rw[zF (by omega),zD,zm i1 i2,i4,if_neg (by rw[i3];decide),Z9 _ _ _ _ hb,zc]
   by_cases hz:(kr s.1 (aN s L[j]) b a).2.2=0
   case neg=>rw[zF hz,if_pos hz];rfl
   rw[zT hz,Bool.not_true,zD,if_neg (fun h=>h hz),zT (by simp only[List.length_singleton];omega),zC,zr (by omega),<-zyl hb hz]
   exact ztd s hs b t hb L hL n (j+1) k _ _ (by omega) (by rw[List.length_append,List.length_singleton];omega) (by omega)
def Kj(s:zf)(b t:ByteArray)(z:Int):Option (aZ×bA):=
 (jK t).bind fun r3=>(bif(!r3) then some (cE,((7:Int),(0:Int),())) else(zd (0:Int) t.size (bif(!(decide ((zW zI ((zW zI (ze t ((0:Int)).toNat))-(48:Int)))=s.2.1))) then some (cE,((7:Int),(0:Int),())) else((tW s.1 b z).bind fun r4=>(bif(!(decide (r4.2.2=(0:Int)))) then some ((t,[],()),(r4.2.2,(1:Int),())) else(z59 ae b r4.1 r4.2.1 0 s cE zw (t,[],())).bind (rG b))))))
theorem Hf(s:zf)(hs:s.2.2.1.length<=maxLen)(b t:ByteArray)(z:Nat)(hb:b.size<=1099511627776)(ht:t.size<=2000):Kj s b t z=some (uP s b (if fI t=true/\dk t=s.2.1 then .inr (t,z) else .inl 7)):=by
 unfold Kj
 rw[zs5 t (by rw[zj];omega),zc]
 cases hr:fI t with
 |false=>rfl
 |true=>
  have h4:=(nq.1 hr).1
  have hd:=DR hr 0 (by decide)
  have hv:dk t=ze t 0-48:=by unfold dk;rw[hr];rfl
  have e1:zW zI (ze t 0)=ze t 0:=zg (by omega) (by omega)
  have e2:zW zI (ze t 0-48)=ze t 0-48:=zg (by omega) (by omega)
  rw[Bool.not_true,zD,h4,show(0:Int)=((0:Nat):Int) from rfl,zi (by decide),Int.toNat_natCast,e1,e2,<-hv]
  by_cases he:dk t=s.2.1
  case neg=>rw[zF he,if_neg (fun h=>he h.2)];rfl
  rw[zT he,Bool.not_true,zD,if_pos ⟨rfl,he⟩,Z7 _ _ _ hb,zc]
  dsimp only[uP,jM]
  by_cases hz:(aU s.1 b z).2.2.2=0
  ·obtain⟨q1,q2,q3⟩:=HE hz
   have hg:eJ (aU s.1 b z)=(elems (aU s.1 b z).1 (aU s.1 b z).2.1,(aU s.1 b z).2.2.1,0):=by
    unfold eJ
    rw[if_pos hz]
   rw[hg,if_neg (fun h=>h hz)]
   refine(CC (p:=(0:Int)=0) rfl).trans ?_
   dsimp only
   have:=ztd s hs b t hb (elems (aU s.1 b z).1 (aU s.1 b z).2.1) (by have:=Da (aU s.1 b z).1 (aU s.1 b z).2.1;omega) (elems (aU s.1 b z).1 (aU s.1 b z).2.1).length 0 ae (aU s.1 b z).2.2.1.toNat [] (by omega) (Nat.le_refl _) (by have:=Da (aU s.1 b z).1 (aU s.1 b z).2.1;rw[zq];omega)
   rw[q3,List.drop_zero] at this
   exact this
  ·have hg:eJ (aU s.1 b z)=([],0,(aU s.1 b z).2.2.2):=by
    unfold eJ
    rw[if_neg hz]
   rw[hg,if_pos hz]
   exact DQ hz
theorem VO(s:zf)(b:ByteArray)(hs:s.2.2.1.length<=maxLen)(hb:b.size<=1099511627776):qB s b=some (cY s b):=by
 have gB:=z105 s.1 b
 unfold qB Df cY
 rw[zs4 s hs,zc]
 by_cases h0:(gd s).1=0
 case neg=>rw[zF h0,if_pos h0];rfl
 rw[zT h0,Bool.not_true,zD,if_neg (fun h=>h h0)]
 unfold gX
 by_cases h2:s.1=2
 ·have hz:c9 s.1=2:=by unfold c9;rw[if_pos h2]
  have hT:du s.1 b=(gO (b.extract 0 2) 4).1:=by unfold du;rw[if_pos h2]
  rw[zT h2,zC,hz]
  by_cases hc:b.size<2
  ·rw[zT (by omega),if_pos hc];rfl
  ·rw[zF (by omega),zD,zT (by omega),zC,zC,show((2:Int)).toNat=2 from rfl,zmt _ _ (by rw[ByteArray.size_extract];omega),zc,<-hT,if_neg hc]
   exact Hf s hs b (du s.1 b) 2 hb gB
 ·have hz:c9 s.1=4:=by unfold c9;rw[if_neg h2]
  have hT:du s.1 b=b.extract 0 4:=by unfold du;rw[if_neg h2]
  rw[zF h2,zD,hz]
  by_cases hc:b.size<4
  ·rw[zT (by omega),if_pos hc];rfl
  ·rw[zF (by omega),zD,zT (by omega),zC,zD,show((4:Int)).toNat=4 from rfl,<-hT,if_neg hc]
   exact Hf s hs b (du s.1 b) 4 hb gB
theorem Ij:∀{l r:List Int},l.Pairwise (· < ·)->r.Pairwise (· < ·)->(∀v,v∈l↔v∈r)->l=r
 | [],[],_,_,_=>rfl
 | [],y::r,_,_,h=>by have:=(h y).2 List.mem_cons_self;cases this
 |x::l,[],_,_,h=>by have:=(h x).1 List.mem_cons_self;cases this
 |x::l,y::r,h1,h2,h=>by
  obtain⟨a1,a2⟩:=List.pairwise_cons.1 h1
  obtain⟨b1,b2⟩:=List.pairwise_cons.1 h2
  have e:x=y:=by
   rcases List.mem_cons.1 ((h x).1 List.mem_cons_self) with e|hx
   ·exact e
   ·rcases List.mem_cons.1 ((h y).2 List.mem_cons_self) with e|hy
    ·exact e.symm
    ·have:=a1 y hy;have:=b1 x hx;omega
  subst e
  rw[Ij a2 b2 fun v=>⟨fun hv=> ?_,fun hv=> ?_⟩]
  ·rcases List.mem_cons.1 ((h v).1 (List.mem_cons_of_mem _ hv)) with e|h3
   ·have:=a1 v hv;omega
   ·exact h3
  ·rcases List.mem_cons.1 ((h v).2 (List.mem_cons_of_mem _ hv)) with e|h3
   ·have:=b1 v hv;omega
   ·exact h3
theorem aci{l:List Int}(hs:l.Pairwise (· < ·))(hr:∀x∈l,1<=x/\x<=128):elems (bz l) (bI l)=l:=
 Ij (MS _ _) hs fun v=>by
  rw[yh,qq]
  unfold fY
  constructor
  ·intro h
   rw[Bool.and_eq_true,decide_eq_true_eq] at h
   exact h.1
  ·intro h
   rw[Bool.and_eq_true,decide_eq_true_eq,decide_eq_true_eq]
   exact⟨h,hr v h⟩
theorem agW{h l:Nat}(hh:h<cz)(hl:l<cz):bz (elems h l)=h/\bI (elems h l)=l:=
 Ls (lp _) (mr _) hh hl fun n n1 n2=>by
  rw[qq]
  unfold fY
  rw[zT (p:=1<=n/\n<=128) ⟨n1,n2⟩,Bool.and_true]
  cases hn:bh h l n with
  |true=>exact zT ((yh h l n).2 hn)
  |false=>exact zF fun hm=>by rw[(yh h l n).1 hm] at hn;cases hn
theorem zxu{s:zf}(h:gh s){no:Int}(hh:bp s no=true):2<=no/\no<=128:=by
 have:=Nv (Nf h hh)
 rw[(Nr hh).2] at this
 exact this
theorem zyr(s:zf)(ho:gh s):∀(l o:List aO) (x:ByteArray),(∀v∈l,bp s v.1=true/\aY (aN s v.1) v.2.1=0/\v.2.1.size<=1000)->dA s (x++dp s l) (l.map fun v=>v.1) x.size o=(o++l,zw)
 | [],o,x,_=>by
   rw[dp,PW,List.append_nil,List.map_nil,dA,if_neg (by omega)]
 |v::r,o,x,h=>by
  obtain⟨h1,h2,h3⟩:=h v List.mem_cons_self
  have hb:=YI (style:=s.1) ho.1 (by omega) h2 x (dp s r)
  have e1:x++dp s (v::r)=x++(lm s.1 (aN s v.1) v.2.1).1++dp s r:=by rw[dp,ByteArray.append_assoc]
  rw[List.map_cons,dA,if_neg (by rw[h1];decide),e1,hb]
  dsimp only
  rw[if_neg (fun h=>h rfl),Int.toNat_natCast,<-zu,zyr s ho r _ (x++(lm s.1 (aN s v.1) v.2.1).1) fun w hw=>h w (List.mem_cons_of_mem _ hw),List.append_assoc]
  rfl
theorem Hj{s:zf}(hs:s.1=1\/s.1=2){m y:ByteArray}(hm:fI m=true):du s.1 (dj s.1 m++y)=m/\(dj s.1 m).size=c9 s.1:=by
 obtain⟨h4,hd⟩:=nq.1 hm
 have e0:∀(p:ByteArray) (k:Nat),p.size=k->(p++y).extract 0 k=p:=fun p k hk=>by
  have:=P0 (bs []) p y
  rw[Sh,show(bs []).size=0 from rfl,Nat.zero_add,hk] at this
  exact this
 unfold du dj c9
 rcases hs with hs|hs
 ·have n2:¬s.1=2:=by omega
  rw[if_neg n2,if_pos hs,if_neg n2]
  exact⟨e0 m 4 h4,h4⟩
 ·have n1:¬s.1=1:=by omega
  have hz:(mD m).1.size=2:=by rw[Kp (by omega) hd,h4]
  rw[if_pos hs,if_neg n1,if_pos hs,e0 _ 2 hz]
  have:=zo2 (s:=m) (by omega) hd
  rw[h4] at this
  rw[show(4:Int)=((4:Nat):Int) from rfl,this]
  exact⟨rfl,hz⟩
theorem ab9{s:zf}{m:aZ}(h:eO s m)(ng:dR m):cY s (cJ s m)=(m,zw):=by
 have ho:=(sO s).1 h.gV
 obtain⟨f1,f2,f3⟩:=tc.1 h.gx
 have vd:∀n∈cf m,2<=n/\n<=128:=fun n hn=>by
  obtain⟨v,hv,rfl⟩:=List.mem_map.1 hn
  exact zxu ho (f1 v hv).1
 have rZ:(cf m).Pairwise (· < ·):=List.pairwise_map.2 f2
 have dN:=aci rZ fun x hx=>by have:=vd x hx;omega
 have h1:bz (cf m)<9223372036854775808:=by
  have:=Kb (cf m)
  rw[zF (fun h1=>by have:=vd 1 h1;omega)] at this
  cases hd:decide (bz (cf m)<9223372036854775808) with
  |true=>exact of_decide_eq_true hd
  |false=>rw[hd] at this;cases this
 obtain⟨t1,t2⟩:=Hj (s:=s) ho.1 (m:=m.1) (y:=(b7 s.1 (bz (cf m)) (bI (cf m))).1++dp s m.2.1) h.right
 have e1:cJ s m=dj s.1 m.1++((b7 s.1 (bz (cf m)) (bI (cf m))).1++dp s m.2.1):=by unfold cJ;rw[ByteArray.append_assoc]
 have hb:=aeS (style:=s.1) ho.1 h1 (mr (cf m)) (dj s.1 m.1) (dp s m.2.1)
 have dh:c9 s.1<=(cJ s m).size:=by rw[e1,zu,t2];omega
 unfold cY
 rw[if_neg (fun hn=>hn h.gV)]
 have hT:gX s (cJ s m)= .inr (m.1,c9 s.1):=by
  unfold gX
  rw[if_neg (by omega),e1,t1,if_pos ⟨h.right,h.ML⟩]
 rw[hT]
 show jM s (cJ s m) m.1 (aU s.1 (cJ s m) (c9 s.1))=_
 rw[<-t2]
 show jM s (cJ s m) m.1 (aU s.1 (dj s.1 m.1++(b7 s.1 (bz (cf m)) (bI (cf m))).1++dp s m.2.1) (dj s.1 m.1).size)=_
 rw[hb]
 unfold jM
 dsimp only
 rw[if_neg (fun hn=>hn rfl),Int.toNat_natCast,dN]
 have hd:=zyr s ho m.2.1 [] (dj s.1 m.1++(b7 s.1 (bz (cf m)) (bI (cf m))).1) fun v hv=>⟨(f1 v hv).1,(f1 v hv).2,ng.mh v hv⟩
 rw[zu] at hd
 have Mq:dA s (cJ s m) (cf m) ((dj s.1 m.1).size+(b7 s.1 (bz (cf m)) (bI (cf m))).1.size) []=([]++m.2.1,zw):=hd
 rw[Mq]
 rfl
theorem zsh(s:zf)(b:ByteArray)(hb:b.size<=1099511627776):∀(r:List Int) (a:Nat) (o q:List aO) (f:bA),a<=b.size->dA s b r a o=(q,f)->f.1=0->f=zw/\∃l,q=o++l/\(l.map fun v=>v.1)=r/\dp s l=b.extract a b.size/\∀v∈l,bp s v.1=true/\aY (aN s v.1) v.2.1=0/\v.2.1.size<=999
 | [],a,o,q,f,ha,h,h0=>by
   rw[dA] at h
   by_cases hc:a<b.size
   ·rw[if_pos hc] at h
    injection h with _ h
    rw[<-h] at h0;cases h0
   ·rw[if_neg hc] at h
    injection h with h1 h2
    refine⟨h2.symm,[],by rw[<-h1,List.append_nil],rfl,?_,fun v hv=>by cases hv⟩
    have:a=b.size:=by omega
    rw[this,dp]
    apply qt
    rw[z24,List.drop_eq_nil_of_le (by rw[List.length_take];omega)];rfl
 |no::r,a,o,q,f,ha,h,h0=>by
  rw[dA] at h
  split at h
  ·injection h with _ h;rw[<-h] at h0;cases h0
  ·rename_i hf
   have hf:bp s no=true:=by cases hh:bp s no with
    |true=>rfl
    |false=>exact absurd hh hf
   split at h
   ·rename_i hz
    injection h with _ h
    rw[<-h] at h0
    exact absurd h0 hz
   ·rename_i hz
    generalize hg:kr s.1 (aN s no) b (a:Int)=g at h hz
    obtain⟨t,z,e⟩:=g
    dsimp only at h hz
    have he:e=0:=Classical.byContradiction fun hn=>hz hn
    subst he
    obtain⟨c1,c2,c3,c4,c5,c6⟩:=zcf hb hg
    obtain⟨i1,l,i2,i3,i4,i5⟩:=zsh s b hb r z.toNat _ q f (by omega) h h0
    refine⟨i1,(no,t,())::l,by rw[i2,List.append_assoc];rfl,by rw[List.map_cons,i3],?_,fun v hv=> ?_⟩
    ·rw[dp,i4]
     dsimp only
     rw[c6]
     exact Ln _ (by omega) (by omega)
    ·rcases List.mem_cons.1 hv with rfl|hv
     ·exact⟨hf,c2,c5⟩
     ·exact i5 v hv
theorem ae5(b:ByteArray):b.extract 0 b.size=b:=by
 apply qt
 rw[z24,List.drop_zero,List.take_of_length_le (by rw[zh];exact Nat.le_refl _)]
theorem YP{s:zf}{b:ByteArray}{m:aZ}{f:bA}(hb:b.size<=1099511627776)(h:cY s b=(m,f))(h0:f.1=0):f=zw/\eO s m/\dR m/\cJ s m=b:=by
 unfold cY at h
 split at h
 ·injection h with _ h;rw[<-h] at h0;cases h0
 rename_i ve
 have ve:(gd s).1=0:=Classical.byContradiction fun hn=>ve hn
 have ho:=(sO s).1 ve
 cases ht:gX s b with
 |inl e=>
  rw[ht] at h
  have he:e≠0:=by
   unfold gX at ht
   split at ht
   ·cases ht;decide
   ·split at ht
    ·cases ht
    ·cases ht;decide
  injection h with _ h
  rw[<-h] at h0
  exact absurd h0 he
 |inr q=>
  rw[ht] at h
  unfold gX at ht
  split at ht
  ·cases ht
  rename_i dh
  split at ht
  case isFalse=>cases ht
  rename_i hr
  obtain⟨eA,dZ⟩:=hr
  injection ht with ht
  subst ht
  replace h:jM s b (du s.1 b) (aU s.1 b (c9 s.1))=(m,f):=h
  have htc:dj s.1 (du s.1 b)=b.extract 0 (c9 s.1):=by
   obtain⟨h4,hd⟩:=nq.1 eA
   unfold dj du c9 at*
   rcases ho.1 with h1|h2
   ·rw[if_pos h1,if_neg (by omega),if_neg (by omega)]
   ·rw[if_pos h2] at dh eA h4 hd⊢
    rw[if_neg (by omega),if_pos h2]
    generalize hg:gO (b.extract 0 2) 4=g at eA h4 hd⊢
    obtain⟨t,e,i⟩:=g
    dsimp only at h4 hd⊢
    have GH:(b.extract 0 2).size=2:=by rw[ByteArray.size_extract];omega
    have he:e=0:=by
     unfold gO at hg
     rw[if_neg (by decide),if_neg (by rw[GH];decide)] at hg
     split at hg
     ·injection hg with hg _
      rw[<-hg] at h4;cases h4
     ·injection hg with _ hg
      injection hg with hg _
      exact hg.symm
    subst he
    obtain⟨a1,_,_⟩:=zg4 hg (by rw[GH];decide)
    rw[a1]
  unfold jM at h
  generalize hg:aU s.1 b ((c9 s.1:Nat):Int)=g at h
  obtain⟨hi,lo,z,e⟩:=g
  dsimp only at h
  split at h
  ·rename_i he
   injection h with _ h
   rw[<-h] at h0
   exact absurd h0 he
  rename_i he
  have he:e=0:=Classical.byContradiction fun hn=>he hn
  subst he
  obtain⟨_,b1,b2,b3,b4,b5⟩:=HF hg
  generalize hq:dA s b (elems hi lo) z.toNat []=d at h
  obtain⟨q,f'⟩:=d
  injection h with hm hf
  dsimp only at hm hf
  subst hf
  obtain⟨i1,l,i2,i3,i4,i5⟩:=zsh s b hb _ _ _ _ _ (by omega) hq h0
  rw[List.nil_append] at i2
  subst i2
  subst hm
  have vd:cf (du s.1 b,q,())=elems hi lo:=i3
  obtain⟨s1,s2⟩:=agW (h:=hi) (l:=lo) (by show hi<18446744073709551616;omega) b2
  have rZ:iJ q:=by
   have:=MS hi lo
   rw[<-i3] at this
   exact List.pairwise_map.1 this
  refine⟨i1,⟨ve,eA,dZ,tc.2 ⟨fun v hv=>⟨(i5 v hv).1,(i5 v hv).2.1⟩,rZ,fun v hv=>by have:=zxu ho (i5 v hv).1;omega⟩⟩,⟨by have:=(nq.1 eA).1;dsimp only;omega,?_,fun v hv=>by have:=(i5 v hv).2.2;omega⟩,?_⟩
  ·have:=Da hi lo
   rw[<-i3,List.length_map] at this
   dsimp only;omega
  ·unfold cJ
   rw[vd,s1,s2]
   dsimp only
   rw[htc,b5,i4,Ln _ (by omega) (by omega),Ln _ (by omega) (by omega),ae5]
abbrev bn:=zf×Map×List Int×List aO×Unit
abbrev ya:aO:=(0,bs [],())
def kd(s:zf)(prev:List Int)(no:Int):Int:=bif !bp s no then 9 else bif decide (no=39) then 1 else bif decide (no∈prev) then 10 else 0
def ig(s:zf):List Int->List Int->Int->Option (Int×Int)
 |_,[],_=>none
 |prev,no::r,i=>bif decide (kd s prev no=0) then ig s (prev++ [no]) r (i+1) else some (kd s prev no,i)
def ib(a:Spec)(prev:List Int)(c:aO):Int:=bif decide (c.1<0) then 1 else bif decide (16<c.1) then 1 else bif decide (c.1∈prev) then 10 else aY a c.2.1
def fK(a:Spec):List Int->List aO->Int->Option (Int×Int)
 |_,[],_=>none
 |prev,c::r,i=>bif decide (ib a prev c=0) then fK a (prev++ [c.1]) r (i+1) else some (ib a prev c,i)
def gG(s:bn):Int×Int×Int:=
 bif !decide ((gd s.1).1=0) then(1,1,0) else bif !bp s.1 39 then(9,1,1) else match ig s.1 [] s.2.2.1 0 with
  |some e=>(e.1,2,e.2)
  |none=>match fK (aN s.1 39) [] s.2.2.2.1 0 with
   |some e=>(e.1,3,e.2)
   |none=>bif decide ((0:Int)∈s.2.2.2.1.map fun c=>c.1) then(0,0,0) else(15,3,(s.2.2.2.1.length:Int))
structure dM(s:bn):Prop where
 gV:s.1.2.2.1.length<=maxLen
 zM:s.2.2.1.length<=1000000
 ja:s.2.2.2.1.length<=1000000
 mh:∀c∈s.2.2.2.1,c.2.1.size<=1099511627776
theorem H2(no:Int):∀(l:List Int) (i:Int),0<=i->∃r,bc (fun i (x:Int) (s:Unit) K=>bif decide (no=x) then some (Sum.inl i) else K s) (fun _=>some (Sum.inr ())) l i ()=some r/\(no∈l->∃j,r= .inl j/\0<=j)/\(no∉l->r= .inr ())
 | [],i,_=>⟨_,rfl,fun h=>(by cases h),fun _=>rfl⟩
 |x::l,i,h=>by
  rw[bc]
  by_cases e:no=x
  ·rw[zT e,zC]
   exact⟨_,rfl,fun _=>⟨i,rfl,h⟩,fun hn=>absurd (by rw[e];exact List.mem_cons_self) hn⟩
  ·rw[zF e,zD]
   obtain⟨r,h1,h2,h3⟩:=H2 no l (i+1) (by omega)
   exact⟨r,h1,fun hm=>h2 ((List.mem_cons.1 hm).resolve_left e),fun hn=>h3 fun hm=>hn (List.mem_cons_of_mem _ hm)⟩
theorem Vo(l:List Int)(no:Int)(h:l.length<=maxLen):qT l no=some (decide (no∈l)):=by
 unfold qT O3 tM O9
 have:=cm (0:Int) l h (fun i (x:Int) (s:Unit) K=>bif decide (no=x) then some (Sum.inl i) else K s) (fun _=>some (Sum.inr ()))
  (fun k i s=>Lb k l no (l.length:Int) i) (fun k i s=>rfl) ()
 dsimp only
 obtain⟨r,h1,h2,h3⟩:=H2 no l 0 (Int.le_refl _)
 rw[this,h1,zc]
 by_cases hm:no∈l
 ·obtain⟨j,rfl,hj⟩:=h2 hm
  rw[zT hm]
  show some (decide (0<=j))=_
  rw[zT hj]
 ·rw[h3 hm,zF hm];rfl
theorem H3(c:aO):∀(l:List aO) (i:Int),0<=i->∃r,bc (fun i (x:aO) (s:aO) K=>((po x s).bind fun r1=>(bif r1.1 then some (Sum.inl (i,r1.2)) else K r1.2))) (fun s=>some (Sum.inr s)) l i c=some r/\(c.1∈l.map (fun v=>v.1)->∃j,r= .inl (j,c)/\0<=j)/\(c.1∉l.map (fun v=>v.1)->r= .inr c)
 | [],i,_=>⟨_,rfl,fun h=>(by cases h),fun _=>rfl⟩
 |x::l,i,h=>by
  rw[bc]
  unfold po OL
  rw[zc]
  dsimp only
  rw[List.map_cons]
  by_cases e:x.1=c.1
  ·rw[zT e,zC]
   exact⟨_,rfl,fun _=>⟨i,rfl,h⟩,fun hn=>absurd (by rw[e];exact List.mem_cons_self) hn⟩
  ·rw[zF e,zD]
   obtain⟨r,h1,h2,h3⟩:=H3 c l (i+1) (by omega)
   exact⟨r,h1,fun hm=>h2 ((List.mem_cons.1 hm).resolve_left fun e2=>e e2.symm),fun hn=>h3 fun hm=>hn (List.mem_cons_of_mem _ hm)⟩
theorem Vp(l:List aO)(c:aO)(h:l.length<=maxLen):qS l c=some (decide (c.1∈l.map fun v=>v.1),c):=by
 unfold qS O2 tL O5
 have:=cm ya l h (fun i (x:aO) (s:aO) K=>((po x s).bind fun r1=>(bif r1.1 then some (Sum.inl (i,r1.2)) else K r1.2))) (fun s=>some (Sum.inr s))
  (fun k i s=>K9 k l (l.length:Int) i s) (fun k i s=>rfl) c
 dsimp only
 obtain⟨r,h1,h2,h3⟩:=H3 c l 0 (Int.le_refl _)
 rw[this,h1,zc]
 by_cases hm:c.1∈l.map fun v=>v.1
 ·obtain⟨j,rfl,hj⟩:=h2 hm
  rw[zT hm]
  show some (decide (0<=j),c)=_
  rw[zT hj]
 ·rw[h3 hm,zF hm];rfl
theorem zxq{α:Type}{l:List α}{j:Nat}(h:j<l.length)(d:α):l.getD j d=l[j]:=by rw[List.getD_eq_getElem?_getD,List.getElem?_eq_getElem h];rfl
theorem ae2(s:bn)(h:dM s){j:Nat}(hj:j<s.2.2.1.length):qP s (j:Int)=some (kd s.1 (s.2.2.1.take j) s.2.2.1[j]):=by
 have he:=h.zM
 unfold qP OM kd
 rw[zi hj,Int.toNat_natCast,zxq hj,vG s.1 _ h.gV,zc]
 cases bp s.1 s.2.2.1[j] with
 |false=>rfl
 |true=>
  dsimp only
  rw[Bool.not_true,zD,zD]
  cases decide (s.2.2.1[j]=39) with
  |true=>rfl
  |false=>
   rw[zD,zD,zT (by omega),zC,zT (by omega),zC,List.drop_zero,Vo _ _ (by rw[List.length_take,zj];omega),zc]
   cases decide (s.2.2.1[j]∈s.2.2.1.take j)<;>rfl
theorem aeZ(s:bn)(h:dM s)(a:Spec){j:Nat}(hj:j<s.2.2.2.1.length):qO s (j:Int) a=some (ib a ((s.2.2.2.1.take j).map fun c=>c.1) s.2.2.2.1[j]):=by
 have he:=h.ja
 have ht:=h.mh _ (List.getElem_mem hj)
 unfold qO OK ib
 rw[zi hj,Int.toNat_natCast,zxq hj]
 cases decide (s.2.2.2.1[j].1<0) with
 |true=>rfl
 |false=>
  rw[zD,zD]
  cases decide (16<s.2.2.2.1[j].1) with
  |true=>rfl
  |false=>
   rw[zD,zD,zT (by omega),zC,zT (by omega),zC,List.drop_zero,Vp _ _ (by rw[List.length_take,zj];omega),zc]
   dsimp only
   cases decide (s.2.2.2.1[j].1∈(s.2.2.2.1.take j).map fun c=>c.1) with
   |true=>rfl
   |false=>rw[zD,zD,te _ _ ht];rfl
theorem zyz(s:bn)(h:dM s)(sp:Spec):∀(n j k:Nat),j+n=s.2.2.1.length->n<k->B3 k (s.2.2.1.length:Int) (j:Int) s sp=some (match ig s.1 (s.2.2.1.take j) (s.2.2.1.drop j) j with
 |some e=> .inl (e.1,2,e.2,s,sp)
 |none=> .inr (s,sp))
 |n,j,0,_,hk=>by omega
 |0,j,k+1,hj,hk=>by
  unfold B3 K3
  rw[zF (by omega),zD,List.drop_eq_nil_of_le (by omega)];rfl
 |n+1,j,k+1,hj,hk=>by
  have ap:j<s.2.2.1.length:=by omega
  have he:=h.zM
  unfold B3 K3
  rw[zT (by omega),zC,ae2 s h ap,zc,List.drop_eq_getElem_cons ap,ig]
  cases decide (kd s.1 (s.2.2.1.take j) s.2.2.1[j]=0) with
  |false=>rfl
  |true=>
   rw[Bool.not_true,zD,zC]
   dsimp only
   rw[zr (by omega),List.take_append_getElem ap]
   exact zyz s h sp n (j+1) k (by omega) (by omega)
def ky(t:Bool):List aO->Bool
 | []=>t
 |c::r=>ky (t||decide (c.1=0)) r
theorem Iu(t:Bool):∀l:List aO,ky t l=(t||decide ((0:Int)∈l.map fun c=>c.1))
 | []=>by simp [ky]
 |c::r=>by
  rw[ky,Iu _ r,List.map_cons,Bool.or_assoc]
  congr 1
  rw[<-Bool.decide_or]
  exact decide_eq_decide.2 ⟨fun h=>h.elim (fun e=>by rw[<-e];exact List.mem_cons_self) (List.mem_cons_of_mem _),fun h=>(List.mem_cons.1 h).imp (fun e=>e.symm) id⟩
theorem zgc(s:bn)(h:dM s)(a:Spec):∀(n j k:Nat) (t:Bool),j+n=s.2.2.2.1.length->n<k->∃t',B4 k t s.2.2.2.1 (s.2.2.2.1.length:Int) (j:Int) s a=some (match fK a ((s.2.2.2.1.take j).map fun c=>c.1) (s.2.2.2.1.drop j) j with
 |some e=> .inl (e.1,3,e.2,t',s)
 |none=> .inr (ky t (s.2.2.2.1.drop j),s))
 |n,j,0,t,_,hk=>by omega
 |0,j,k+1,t,hj,hk=>by
  unfold B4 K4
  rw[zF (by omega),zD,List.drop_eq_nil_of_le (by omega)]
  exact⟨t,rfl⟩
 |n+1,j,k+1,t,hj,hk=>by
  have ap:j<s.2.2.2.1.length:=by omega
  have he:=h.ja
  unfold B4 K4
  rw[zT (by omega),zC,zi ap,aeZ s h a ap,zc,List.drop_eq_getElem_cons ap,fK,ky]
  cases decide (ib a ((s.2.2.2.1.take j).map fun c=>c.1) s.2.2.2.1[j]=0) with
  |false=>exact⟨t,rfl⟩
  |true=>
   rw[Bool.not_true,zD,zC]
   dsimp only
   rw[zr (by omega),Int.toNat_natCast,zxq ap]
   have e:(s.2.2.2.1.take j).map (fun c=>c.1)++ [s.2.2.2.1[j].1]=(s.2.2.2.1.take (j+1)).map fun c=>c.1:=by rw[<-List.take_append_getElem ap,List.map_append];rfl
   rw[e]
   cases t with
   |true=>
    rw[zC,Bool.true_or]
    exact zgc s h a n (j+1) k true (by omega) (by omega)
   |false=>
    rw[zD,Bool.false_or]
    exact zgc s h a n (j+1) k _ (by omega) (by omega)
theorem zmj(s:bn)(h:dM s):qM s=some (gG s):=by
 have he:=h.zM
 have hc:=h.ja
 unfold qM OC gG
 rw[KD s.1 h.gV,zc]
 cases decide ((gd s.1).1=0) with
 |false=>rfl
 |true=>
  rw[Bool.not_true,zD,zD,vG s.1 39 h.gV,zc]
  cases bp s.1 39 with
  |false=>rfl
  |true=>
   dsimp only
   rw[Bool.not_true,zD,zD]
   have e1:=zyz s h (aN s.1 39) s.2.2.1.length 0 ae (by omega) (by rw[zq];omega)
   rw[List.take_zero,List.drop_zero,show((0:Nat):Int)=0 from rfl] at e1
   rw[e1,zc]
   cases ig s.1 [] s.2.2.1 0 with
   |some e=>rfl
   |none=>
    dsimp only
    rw[Sum.elim_inr]
    unfold OD
    dsimp only
    obtain⟨t',e2⟩:=zgc s h (aN s.1 39) s.2.2.2.1.length 0 ae false (by omega) (by rw[zq];omega)
    rw[List.take_zero,List.drop_zero,show((0:Nat):Int)=0 from rfl,List.map_nil] at e2
    rw[e2,zc]
    cases fK (aN s.1 39) [] s.2.2.2.1 0 with
    |some e=>rfl
    |none=>
     dsimp only
     rw[Sum.elim_inr]
     unfold OE
     rw[Iu,Bool.false_or]
     dsimp only
     cases decide ((0:Int)∈s.2.2.2.1.map fun c=>c.1)<;>rfl
abbrev AJ:=List bn×Int×Unit
abbrev afk:zf:=((0:Int),(0:Int),([]:List Spec),())
abbrev x6:bn:=(afk,TI,([]:List Int),([]:List aO),())
abbrev G6:Ty:= .pair (.int .i64) (.pair .str .unit)
abbrev sD:Ty:= .pair afl (.pair G7 (.pair (.sl 0 (.int .i64)) (.pair (.sl 0 G6) .unit)))
abbrev zy1:Ty:= .pair (.arr 2 sD) (.pair (.int .i64) .unit)
theorem ZP{c:AJ}(h:c.1.length=2):∃p q,c=([p,q],c.2.1,()):=by
 obtain⟨l,n,u⟩:=c
 match l,h with
 | [p,q],_=>exact⟨p,q,rfl⟩
theorem JZ:∃k,ae=k+1+1+1:=⟨ae-3,by rw[zq]⟩
def DT(s:bn):Bool:=decide ((200:Int)<(s.1.2.2.1.length:Int))||(decide ((300:Int)<(s.2.2.1.length:Int))||(decide ((300:Int)<(s.2.2.2.1.length:Int))||s.2.2.2.1.any fun c=>decide ((1200:Int)<(c.2.1.size:Int))))
theorem J4:∀(l:List aO) (i:Int),bc (fun i (x:aO) (s:Unit) K=>(bif(decide ((1200:Int)<((x.2.1).size:Int))) then some (Sum.inl true) else K s)) (fun _=>some (Sum.inr ())) l i ()=some (bif l.any (fun c=>decide ((1200:Int)<(c.2.1.size:Int))) then Sum.inl true else Sum.inr ())
 | [],i=>rfl
 |x::r,i=>by
  rw[bc,List.any_cons]
  cases decide ((1200:Int)<(x.2.1.size:Int)) with
  |true=>rfl
  |false=>exact J4 r (i+1)
theorem zov(s:bn)(h:s.2.2.2.1.length<=maxLen):lv s=some (DT s):=by
 unfold lv NZ DT
 cases decide ((200:Int)<(s.1.2.2.1.length:Int)) with
 |true=>rfl
 |false=>
  rw[zD,Bool.false_or]
  cases decide ((300:Int)<(s.2.2.1.length:Int)) with
  |true=>rfl
  |false=>
   rw[zD,Bool.false_or]
   cases decide ((300:Int)<(s.2.2.2.1.length:Int)) with
   |true=>rfl
   |false=>
    rw[zD,Bool.false_or]
    have:=cm ya s.2.2.2.1 h (fun i (x:aO) (s:Unit) K=>(bif(decide ((1200:Int)<((x.2.1).size:Int))) then some (Sum.inl true) else K s)) (fun _=>some (Sum.inr ()))
     (fun k i u=>KS k i s) (fun k i u=>rfl) ()
    dsimp only
    rw[this,J4]
    cases s.2.2.2.1.any (fun c=>decide ((1200:Int)<(c.2.1.size:Int)))<;>rfl
theorem zz8{s:bn}(h:DT s=false):dM s/\s.1.2.2.1.length<=200/\s.2.2.1.length<=300/\s.2.2.2.1.length<=300/\∀c∈s.2.2.2.1,c.2.1.size<=1200:=by
 unfold DT at h
 simp only[Bool.or_eq_false_iff,decide_eq_false_iff_not] at h
 obtain⟨h1,h2,h3,h4⟩:=h
 have ht:∀c∈s.2.2.2.1,c.2.1.size<=1200:=fun c hc=>by
  by_cases e:(1200:Int)<(c.2.1.size:Int)
  ·rw[List.any_eq_true.2 ⟨c,hc,zT e⟩] at h4;cases h4
  ·omega
 exact⟨⟨by rw[zj];omega,by omega,by omega,fun c hc=>by have:=ht c hc;omega⟩,by omega,by omega,by omega,ht⟩
structure fJ(p q:bn):Prop where
 sp:dM p
 sq:dM q
 pm:eE p.2.1
 qm:eE q.2.1
 US:p.1.2.2.1.length<=200
 UW:q.1.2.2.1.length<=200
 pe:p.2.2.1.length<=300
 qe:q.2.2.1.length<=300
 pml:p.2.1.2.1.length<=300
 qml:q.2.1.2.1.length<=300
 UT:∀c∈p.2.2.2.1,c.2.1.size<=1200
 UX:∀c∈q.2.2.2.1,c.2.1.size<=1200
theorem zm9{m:Map}(h:yA m=false):m.2.1.length<=300:=by
 unfold yA at h
 simp only[Bool.or_eq_false_iff,decide_eq_false_iff_not] at h
 omega
theorem WJ{p q:bn}{n:Int}(h:Wf zy1 ([p,q],n,())):∃g,pd ([p,q],n,())=some g/\(g=false->fJ p q):=by
 have hp:Wf sD p:=h.1.2 p (by simp)
 have hq:Wf sD q:=h.1.2 q (by simp)
 have w0:∀{R:Type} (x:Option R),zd 0 2 x=x:=fun x=>zm (by omega) (by omega)
 have w1:∀{R:Type} (x:Option R),zd 1 2 x=x:=fun x=>zm (by omega) (by omega)
 unfold pd N0
 simp only[w0,w1]
 show∃g,((lv p).bind fun r1=>(bif r1 then some true else((lv q).bind fun r2=>(bif r2 then some true else((kA p.2.1).bind fun r3=>(bif r3 then some true else((kA q.2.1).bind fun r4=>some r4)))))))=some g/\_
 rw[zov p hp.2.2.2.1.1,zc]
 cases h1:DT p with
 |true=>exact⟨true,rfl,fun h=>by cases h⟩
 |false=>
  rw[zD,zov q hq.2.2.2.1.1,zc]
  cases h2:DT q with
  |true=>exact⟨true,rfl,fun h=>by cases h⟩
  |false=>
   rw[zD,z157 hp.2.1,zc]
   cases h3:yA p.2.1 with
   |true=>exact⟨true,rfl,fun h=>by cases h⟩
   |false=>
    rw[zD,z157 hq.2.1,zc]
    refine⟨_,rfl,fun h4=> ?_⟩
    obtain⟨a1,a2,a3,a4,a5⟩:=zz8 h1
    obtain⟨b1,b2,b3,b4,b5⟩:=zz8 h2
    exact⟨a1,b1,zz7 h3,zz7 h4,a2,b2,a3,b3,zm9 h3,zm9 h4,a5,b5⟩
def m3(p q:bn)(n:Int):Int×Int×Int:=
 bif decide (n<1) then(5,2,0) else bif decide (65535<n) then(5,2,0)
 else bif !decide ((gG p).1=0) then((gG p).1,0,1) else bif !decide ((dC p.2.1 p.1 q.1).1=0) then((dC p.2.1 p.1 q.1).1,0,2)
 else bif !decide ((gG q).1=0) then((gG q).1,1,1) else bif !decide ((dC q.2.1 q.1 p.1).1=0) then((dC q.2.1 q.1 p.1).1,1,2) else(0,0,0)
theorem CW{R:Type}(x:Option R):zd 0 2 x=x:=zm (by omega) (by omega)
theorem CX{R:Type}(x:Option R):zd 1 2 x=x:=zm (by omega) (by omega)
theorem MN:zW zI ((1:Int)-(0:Int))=1:=by decide
theorem MO:zW zI ((1:Int)-(1:Int))=0:=by decide
theorem x01:zW zI ((0:Int)+(1:Int))=1:=by decide
theorem x12:zW zI ((1:Int)+(1:Int))=2:=by decide
theorem gp(p q:bn):List.getD [p,q] (0:Int).toNat x6=p:=rfl
theorem gq(p q:bn):List.getD [p,q] (1:Int).toNat x6=q:=rfl
theorem Vm(p q:bn)(n:Int)(h:fJ p q):pq ([p,q],n,())=some (m3 p q n):=by
 obtain⟨k,hk⟩:=JZ
 unfold pq OO m3
 dsimp only
 cases decide (n<1) with
 |true=>rfl
 |false=>
  cases decide (65535<n) with
  |true=>rfl
  |false=>
   rw[zD,zD,zD,zD,hk]
   unfold B5 Dh
   simp only[CW,CX,MN,MO,x01,x12,gp,gq]
   rw[zT (by decide:(0:Int)<2),zC,zmj p h.sp,zc]
   cases decide ((gG p).1=0) with
   |false=>rfl
   |true=>
    rw[Bool.not_true,zD,zD,z7c p.2.1 p.1 q.1 h.pm h.sp.gV h.sq.gV,zc]
    cases decide ((dC p.2.1 p.1 q.1).1=0) with
    |false=>rfl
    |true=>
     rw[Bool.not_true,zD,zD]
     unfold B5 Dh
     simp only[CW,CX,MN,MO,x01,x12,gp,gq]
     rw[zT (by decide:(1:Int)<2),zC,zmj q h.sq,zc]
     cases decide ((gG q).1=0) with
     |false=>rfl
     |true=>
      rw[Bool.not_true,zD,zD,z7c q.2.1 q.1 p.1 h.qm h.sq.gV h.sp.gV,zc]
      cases decide ((dC q.2.1 q.1 p.1).1=0) with
      |false=>rfl
      |true=>
       rw[Bool.not_true,zD,zD]
       unfold B5 Dh
       rw[zF (by decide:¬(2:Int)<2),zD]
       rfl
theorem Mm(p q:bn):List.getD [p,q] (0:Int).toNat ((((0:Int),(0:Int),([]:List Spec),()),(([]:List bK),([]:List aS),()),([]:List Int),([]:List aO),()):bn)=p:=rfl
theorem Mn(p q:bn):List.getD [p,q] (1:Int).toNat ((((0:Int),(0:Int),([]:List Spec),()),(([]:List bK),([]:List aS),()),([]:List Int),([]:List aO),()):bn)=q:=rfl
theorem w0{R:Type}(x:Option R):zd 0 2 x=x:=zm (by omega) (by omega)
theorem w1{R:Type}(x:Option R):zd 1 2 x=x:=zm (by omega) (by omega)
def cM(m:ByteArray):ByteArray:=strOf [ze m 0,ze m 1,ze m 2+1,ze m 3]
theorem ae8{m:ByteArray}(h:m.size=4):bl m=[ze m 0,ze m 1,ze m 2,ze m 3]:=by
 have hl:(bl m).length=4:=by rw[zh];exact h
 have e:=fun i=>mC m i
 match hb:bl m,hl with
 | [a,b,c,d],_=>rw[e 0,e 1,e 2,e 3,hb];rfl
theorem Ng{m:ByteArray}(h:eD m=true):fI m=true/\(ze m 2=48\/ze m 2=50):=by
 unfold eD at h
 rw[Bool.and_eq_true,Bool.or_eq_true,decide_eq_true_eq,decide_eq_true_eq] at h
 exact h
theorem Jl{m:ByteArray}(h:eD m=true):bl (cM m)=[ze m 0,ze m 1,ze m 2+1,ze m 3]/\aX [ze m 0,ze m 1,ze m 2+1,ze m 3]=true:=by
 obtain⟨hr,h2⟩:=Ng h
 have d0:=DR hr 0 (by decide)
 have d1:=DR hr 1 (by decide)
 have d3:=DR hr 3 (by decide)
 have hd:aX [ze m 0,ze m 1,ze m 2+1,ze m 3]=true:=pV.2 ⟨pU.2 d0,pV.2 ⟨pU.2 d1,pV.2 ⟨pU.2 (by omega),pV.2 ⟨pU.2 d3,rfl⟩⟩⟩⟩
 exact⟨pW (zyt hd),hd⟩
theorem afj{m:ByteArray}(h:eD m=true):fI (cM m)=true/\dk (cM m)=dk m/\eD (cM m)=false:=by
 obtain⟨hr,h2⟩:=Ng h
 obtain⟨hb,hd⟩:=Jl h
 have hs:(cM m).size=4:=by rw[<-zh,hb];rfl
 have dZ:fI (cM m)=true:=nq.2 ⟨hs,by rw[hb];exact hd⟩
 have e0:ze (cM m) 0=ze m 0:=by rw[mC (cM m),hb];rfl
 have e2:ze (cM m) 2=ze m 2+1:=by rw[mC (cM m),hb];rfl
 refine⟨dZ,?_,?_⟩
 ·unfold dk
  rw[hr,dZ,e0]
 ·unfold eD
  rw[dZ,e2,zF (by omega),zF (by omega)];rfl
theorem VZ(m:ByteArray)(h:m.size<=maxLen):qJ m=some (if eD m=true then(cM m,true) else(bs [],false)):=by
 unfold qJ Om
 rw[zc0 m h,zc]
 cases hr:eD m with
 |false=>rfl
 |true=>
  obtain⟨eA,h2⟩:=Ng hr
  have h4:=(nq.1 eA).1
  have hb:=ae8 h4
  have z1:(m.extract 0 2).size=2:=by rw[ByteArray.size_extract];omega
  have z3:(m.extract 3 m.size).size=1:=by rw[ByteArray.size_extract];omega
  have zs:∀x:Int,(strOf [x]).size=1:=fun x=>by rw[kZ];rfl
  have hw:zW zU (ze m 2+1)=ze m 2+1:=by
   rcases h2 with e|e<;>rw[e]<;>decide
  rw[Bool.not_true,zD,show((2:Int)).toNat=2 from rfl,show((3:Int)).toNat=3 from rfl,zT (by omega),zC,show(2:Int)=((2:Nat):Int) from rfl,zi (by omega),hw,zT (by rw[z1,zs];decide),zC,zT (by omega),zC,zT (by rw[zu,z1,zs,z3];decide),zC,if_pos rfl]
  congr 2
  apply qt
  rw[sQ,sQ,z24,z24,h4,hb,(Jl hr).1]
  have hx:zn (ze m 2+1):=by unfold zn;omega
  rw[pW (xs:=[ze m 2+1]) (by simpa using hx)]
  rfl
def dP(l:List aO)(no:Int):Option aO:=l.find? fun v=>decide (v.1=no)
theorem HU(no:Int):∀(l:List aO) (i:Int),bc (fun i (x:aO) (s:Unit) K=>bif decide (x.1=no) then some (Sum.inl (x.2.1,true)) else K s) (fun _=>some (Sum.inr ())) l i ()=some (match dP l no with
 |some v=> .inl (v.2.1,true)
 |none=>(.inr ():Sum hJ Unit))
 | [],i=>rfl
 |x::r,i=>by
  rw[bc]
  unfold dP
  rw[List.find?_cons]
  cases hx:decide (x.1=no) with
  |true=>rfl
  |false=>exact HU no r (i+1)
theorem adl(m:aZ)(no:Int)(h:m.2.1.length<=1000000):mM m no=some (match dP m.2.1 no with
 |some v=>(v.2.1,true)
 |none=>(bs [],false)):=by
 unfold mM Oe
 dsimp only
 have:=cm gY m.2.1 (by rw[zj];omega) (fun i (x:aO) (s:Unit) K=>bif decide (x.1=no) then some (Sum.inl (x.2.1,true)) else K s) (fun _=>some (Sum.inr ())) (fun k i s=>KW k no m.2.1 (m.2.1.length:Int) i) (fun k i s=>rfl) ()
 rw[this,HU]
 cases dP m.2.1 no<;>rfl
def gv(s:bn)(e:Int):ByteArray:=match dP s.2.2.2.1 e with
 |some c=>c.2.1
 |none=>match dP s.2.2.2.1 0 with
  |some c=>c.2.1
  |none=>bs []
theorem zyn(s:bn)(e:Int)(q:List Int)(n i0:Int):∀(l:List aO) (i:Int),bc (fun i (x:aO) (u:Unit) K=>bif decide (x.1=e) then some (Sum.inl (x.2.1,q,n,i0,s)) else K u) (fun _=>some (Sum.inr (q,n,i0,s))) l i ()=some (match dP l e with
 |some v=> .inl (v.2.1,q,n,i0,s)
 |none=>(.inr (q,n,i0,s):Sum (ByteArray×List Int×Int×Int×bn) (List Int×Int×Int×bn)))
 | [],i=>rfl
 |x::r,i=>by
  rw[bc]
  unfold dP
  rw[List.find?_cons]
  cases hx:decide (x.1=e) with
  |true=>rfl
  |false=>exact zyn s e q n i0 r (i+1)
theorem ae0(s:bn)(hs:s.2.2.2.1.length<=1000000)(e:Int)(q:List Int)(n i0:Int):Dg ae e q n i0 s.2.2.2.1 (s.2.2.2.1.length:Int) 0 s=some (match dP s.2.2.2.1 e with
 |some v=> .inl (v.2.1,q,n,i0,s)
 |none=>(.inr (q,n,i0,s):Sum (ByteArray×List Int×Int×Int×bn) (List Int×Int×Int×bn))):=by
 rw[<-zyn s e q n i0 s.2.2.2.1 0]
 exact cm gY s.2.2.2.1 (by rw[zj];omega) (fun i (x:aO) (u:Unit) K=>bif decide (x.1=e) then some (Sum.inl (x.2.1,q,n,i0,s)) else K u) (fun _=>some (Sum.inr (q,n,i0,s))) (fun k i u=>Dg k e q n i0 s.2.2.2.1 (s.2.2.2.1.length:Int) i s) (fun k i u=>rfl) ()
theorem adg(s:bn)(hs:s.2.2.2.1.length<=1000000)(e:Int):qN s e=some (gv s e):=by
 obtain⟨k,hk⟩:=JZ
 have h1:=ae0 s hs
 unfold qN OI gv
 dsimp only
 rw[show(List.length [e,(0:Int)]:Int)=2 from rfl]
 have step:∀(K i:Nat) (x:Int),i<2->List.getD [e,(0:Int)] i 0=x->ym (K+1) [e,0] 2 (i:Int) s=match dP s.2.2.2.1 x with
  |some v=>some (.inr v.2.1)
  |none=>ym K [e,0] 2 ((i+1:Nat):Int) s:=by
  intro K i x hi hx
  conv=>lhs;unfold ym K5
  rw[zT (by omega),zC,show(List.length [e,(0:Int)])=2 from rfl,zi hi,Int.toNat_natCast,hx]
  dsimp only
  rw[h1,zc]
  cases dP s.2.2.2.1 x with
  |some v=>rfl
  |none=>
   dsimp only
   rw[Sum.elim_inr]
   unfold OJ
   dsimp only
   rw[zr (by omega)]
 have s0:=step (k+1+1) 0 e (by decide) rfl
 have s1:=step (k+1) 1 0 (by decide) rfl
 rw[show((0:Nat):Int)=0 from rfl] at s0
 rw[hk,s0]
 cases dP s.2.2.2.1 e with
 |some v=>rfl
 |none=>
  dsimp only
  rw[s1]
  cases dP s.2.2.2.1 0 with
  |some v=>rfl
  |none=>
   dsimp only
   unfold ym K5
   rw[zF (by decide)];rfl
def eG(l:List aO):List Int->aZ->aZ
 | [],o=>o
 |no::r,o=>eG l r (match dP l no with
  |some v=>dv o no v.2.1
  |none=>o)
def z49(s:bn)(m:aZ)(e:Int):aZ:=dv (eG m.2.1 s.2.2.1 (cM m.1,[],())) 39 (gv s e)
def z130(s:bn)(m:aZ)(f:bA):aZ×Bool:=if eD m.1=true then(z49 s m f.1,true) else(cE,false)
theorem zor(m:aZ)(no:Int)(t:ByteArray):(dv m no t).2.1.length<=m.2.1.length+1:=Nh m no t
theorem zgi(l:List aO):∀(e:List Int) (o:aZ),(eG l e o).2.1.length<=o.2.1.length+e.length
 | [],o=>Nat.le_refl _
 |no::r,o=>by
  rw[eG,List.length_cons]
  have h:=zgi l r (match dP l no with
   |some v=>dv o no v.2.1
   |none=>o)
  cases hx:dP l no with
  |some v=>
   rw[hx] at h
   have:=zor o no v.2.1
   dsimp only at h⊢
   omega
  |none=>rw[hx] at h;dsimp only at h⊢;omega
theorem zgk{ρ:Type}(m:aZ)(hm:m.2.1.length<=1000000)(fin:aZ->Option ρ):∀(l:List Int) (i:Int) (o:aZ),o.2.1.length+l.length<=1000000->
 bc (fun i (x:Int) (o:aZ) K=>(mM m x).bind fun r2=>(bif r2.2 then((gi o x r2.1).bind fun r3=>K r3) else K o)) fin l i o=fin (eG m.2.1 l o)
 | [],i,o,_=>rfl
 |x::r,i,o,h=>by
  rw[List.length_cons] at h
  rw[bc,adl m x hm,zc,eG]
  cases hx:dP m.2.1 x with
  |some v=>
   have:=zor o x v.2.1
   dsimp only
   rw[zC,Nk o x _ (by omega),zc]
   exact zgk m hm fin r (i+1) _ (by omega)
  |none=>exact zgk m hm fin r (i+1) o (by omega)
theorem Z0(s:bn)(m:aZ)(f:bA)(hs:dM s)(he:s.2.2.1.length<=300)(hm:dm m):qL s m f=some (z130 s m f):=by
 have qi:=hm.len
 unfold qL Oy z130
 rw[VZ m.1 (by rw[zj];exact hm.oN),zc]
 cases hr:eD m.1 with
 |false=>rfl
 |true=>
  rw[if_pos rfl,if_pos rfl,Bool.not_true,zD]
  dsimp only
  have hl:=cm (0:Int) s.2.2.1 (by rw[zj];omega) (fun i (x:Int) (o:aZ) K=>(mM m x).bind fun r2=>(bif r2.2 then((gi o x r2.1).bind fun r3=>K r3) else K o)) (fun o=>some (s,f,cE,o)) (fun k i o=>K2 k s.2.2.1 (s.2.2.1.length:Int) i s m f cE o) (fun k i o=>rfl) (cM m.1,[],())
  have hb:=zgi m.2.1 s.2.2.1 (cM m.1,[],())
  rw[hl,zgk m (by omega) _ _ _ _ (by simp;omega),zc]
  unfold Oz
  dsimp only at hb⊢
  rw[adg s hs.ja,zc,Nk _ _ _ (by rw[List.length_nil] at hb;omega),zc]
  rfl
theorem zsf{a:Spec}:∀{l:List aO} {prev:List Int} {i:Int},fK a prev l i=none->∀c∈l,aY a c.2.1=0
 | [],_,_,_,c,hc=>by cases hc
 |x::r,prev,i,h,c,qg=>by
  rw[fK] at h
  by_cases hc:ib a prev x=0
  ·rw[zT hc,zC] at h
   rcases List.mem_cons.1 qg with rfl|qg
   ·unfold ib at hc
    cases h1:decide (c.1<0) with
    |true=>rw[h1] at hc;cases hc
    |false=>
     rw[h1,zD] at hc
     cases h2:decide (16<c.1) with
     |true=>rw[h2] at hc;cases hc
     |false=>
      rw[h2,zD] at hc
      cases h3:decide (c.1∈prev) with
      |true=>rw[h3] at hc;cases hc
      |false=>rw[h3,zD] at hc;exact hc
   ·exact zsf h c qg
  ·rw[zF hc] at h;cases h
structure rh(s:bn):Prop where
 gV:(gd s.1).1=0
 act:bp s.1 39=true
 ja:∀c∈s.2.2.2.1,aY (aN s.1 39) c.2.1=0
 zero:(0:Int)∈s.2.2.2.1.map fun c=>c.1
theorem acX{s:bn}(h:(gG s).1=0):rh s:=by
 unfold gG at h
 by_cases h1:(gd s.1).1=0
 case neg=>rw[zF h1] at h;cases h
 rw[zT h1,Bool.not_true,zD] at h
 cases h2:bp s.1 39 with
 |false=>rw[h2] at h;cases h
 |true=>
  rw[h2,Bool.not_true,zD] at h
  have ne:∀{l:List Int} {prev:List Int} {i:Int} {e:Int×Int},ig s.1 prev l i=some e->e.1≠0:=by
   intro l
   induction l with
   |nil=>intro _ _ _ h;cases h
   |cons x r ih=>
    intro prev i e h
    rw[ig] at h
    by_cases hc:kd s.1 prev x=0
    ·rw[zT hc,zC] at h;exact ih h
    ·rw[zF hc,zD] at h;cases h;exact hc
  have nc:∀{l:List aO} {prev:List Int} {i:Int} {e:Int×Int},fK (aN s.1 39) prev l i=some e->e.1≠0:=by
   intro l
   induction l with
   |nil=>intro _ _ _ h;cases h
   |cons x r ih=>
    intro prev i e h
    rw[fK] at h
    by_cases hc:ib (aN s.1 39) prev x=0
    ·rw[zT hc,zC] at h;exact ih h
    ·rw[zF hc,zD] at h;cases h;exact hc
  cases h3:ig s.1 [] s.2.2.1 0 with
  |some e=>rw[h3] at h;exact absurd h (ne h3)
  |none=>
   rw[h3] at h
   dsimp only at h
   cases h4:fK (aN s.1 39) [] s.2.2.2.1 0 with
   |some e=>rw[h4] at h;exact absurd h (nc h4)
   |none=>
    rw[h4] at h
    dsimp only at h
    by_cases h5:(0:Int)∈s.2.2.2.1.map fun c=>c.1
    ·exact⟨h1,h2,zsf h4,h5⟩
    ·rw[zF h5] at h;cases h
theorem ab4{s:bn}(h:rh s)(e:Int):aY (aN s.1 39) (gv s e)=0:=by
 unfold gv
 cases h1:dP s.2.2.2.1 e with
 |some c=>exact h.ja c (List.mem_of_find?_eq_some h1)
 |none=>
  cases h2:dP s.2.2.2.1 0 with
  |some c=>exact h.ja c (List.mem_of_find?_eq_some h2)
  |none=>
   obtain⟨c,hc,h0⟩:=List.mem_map.1 h.zero
   have:=List.find?_eq_none.1 h2 c hc
   exact absurd (zT h0) this
theorem zyy(l:List aO):∀(e:List Int) (o:aZ) (v:aO),v∈(eG l e o).2.1->v∈o.2.1\/v∈l
 | [],o,v,h=> .inl h
 |no::r,o,v,h=>by
  rw[eG] at h
  rcases zyy l r _ v h with h|h
  ·cases hx:dP l no with
   |none=>rw[hx] at h;exact .inl h
   |some w=>
    rw[hx] at h
    rcases(Ni o no w.2.1 v).1 h with e|⟨h,_⟩
    ·have hw:=List.find?_some hx
     have hw:w.1=no:=by simpa using hw
     right
     rw[e,<-hw]
     exact List.mem_of_find?_eq_some hx
    ·exact .inl h
  ·exact .inr h
theorem zgj(l:List aO):∀(e:List Int) (o:aZ),iJ o.2.1->iJ (eG l e o).2.1/\(eG l e o).1=o.1
 | [],o,h=>⟨h,rfl⟩
 |no::r,o,h=>by
  rw[eG]
  cases hx:dP l no with
  |none=>exact zgj l r o h
  |some w=>
   obtain⟨h1,h2⟩:=zgj l r (dv o no w.2.1) (zhl h no w.2.1)
   exact⟨h1,h2⟩
structure Part(s:zf)(m:aZ):Prop where
 head:fI m.1=true->dk m.1=s.2.1
 oN:m.1.size<=1000
 len:m.2.1.length<=200
 gx:∀v∈m.2.1,bp s v.1=true/\aY (aN s v.1) v.2.1=0/\v.2.1.size<=999
theorem Part.ok{s:zf}{m:aZ}(h:Part s m):dm m:=⟨by have:=h.oN;omega,by have:=h.len;omega,fun v hv=>by have:=(h.gx v hv).2.2;omega⟩
theorem ab0{s:bn}(hk:rh s)(ho:dM s)(he:s.2.2.1.length<=300){m:aZ}(hm:Part s.1 m)(e:Int)(hr:eD m.1=true):eO s.1 (z49 s m e)/\dR (z49 s m e)/\eD (z49 s m e).1=false:=by
 obtain⟨r1,r2,r3⟩:=afj hr
 obtain⟨b1,b2⟩:=zgj m.2.1 s.2.2.1 (cM m.1,[],()) List.Pairwise.nil
 have va:(z49 s m e).1=cM m.1:=b2
 have ok:=(sO s.1).1 hk.gV
 have hc:=ab4 hk e
 have dw:(gv s e).size<=1099511627776:=by
  unfold gv
  split
  ·rename_i c h;exact ho.mh c (List.mem_of_find?_eq_some h)
  ·split
   ·rename_i c h;exact ho.mh c (List.mem_of_find?_eq_some h)
   ·exact Nat.zero_le _
 have hf:∀v∈(z49 s m e).2.1,bp s.1 v.1=true/\aY (aN s.1 v.1) v.2.1=0/\v.2.1.size<=999:=fun v hv=>by
  rcases(Ni _ _ _ v).1 hv with rfl|⟨hv,_⟩
  ·obtain⟨v1,v2,v3,_,_⟩:=(yl _ _ dw).1 hc
   have:=yt v1
   exact⟨hk.act,hc,by dsimp only;omega⟩
  ·rcases zyy _ _ _ v hv with hv|hv
   ·cases hv
   ·exact hm.gx v hv
 have rZ:iJ (z49 s m e).2.1:=zhl b1 39 (gv s e)
 refine⟨⟨hk.gV,by rw[va];exact r1,by rw[va,r2];exact hm.head (Ng hr).1,tc.2 ⟨fun v hv=>⟨(hf v hv).1,(hf v hv).2.1⟩,rZ,fun v hv=>by have:=zxu ok (hf v hv).1;omega⟩⟩,⟨by rw[va];have:=(nq.1 r1).1;omega,?_,fun v hv=>by have:=(hf v hv).2.2;omega⟩,by rw[va];exact r3⟩
 have h1:=zgi m.2.1 s.2.2.1 (cM m.1,[],())
 have h2:=zor (eG m.2.1 s.2.2.1 (cM m.1,[],())) 39 (gv s e)
 unfold z49
 dsimp only[List.length_nil] at h1
 omega
theorem zys(s:zf)(b:ByteArray)(hb:b.size<=1099511627776):∀(r:List Int) (a:Nat) (o:List aO),(∀v∈o,bp s v.1=true/\aY (aN s v.1) v.2.1=0/\v.2.1.size<=999)->(∀v∈(dA s b r a o).1,bp s v.1=true/\aY (aN s v.1) v.2.1=0/\v.2.1.size<=999)/\(dA s b r a o).1.length<=o.length+r.length
 | [],a,o,h=>⟨h,Nat.le_refl _⟩
 |no::r,a,o,h=>by
  rw[dA]
  split
  ·exact⟨h,Nat.le_add_right _ _⟩
  ·rename_i hf
   have hf:bp s no=true:=by cases hh:bp s no with
    |true=>rfl
    |false=>exact absurd hh hf
   split
   ·exact⟨h,Nat.le_add_right _ _⟩
   ·rename_i hz
    generalize hg:kr s.1 (aN s no) b (a:Int)=g at hz⊢
    obtain⟨t,z,e⟩:=g
    dsimp only at hz⊢
    have he:e=0:=Classical.byContradiction fun hn=>hz hn
    subst he
    obtain⟨c1,c2,c3,c4,c5,c6⟩:=zcf hb hg
    have h2:∀v∈o++ [((no,t,()):aO)],bp s v.1=true/\aY (aN s v.1) v.2.1=0/\v.2.1.size<=999:=fun v hv=>by
     rcases List.mem_append.1 hv with hv|hv
     ·exact h v hv
     ·rw[List.mem_singleton.1 hv];exact⟨hf,c2,c5⟩
    obtain⟨i1,i2⟩:=zys s b hb r z.toNat _ h2
    rw[List.length_append,List.length_singleton] at i2
    exact⟨i1,by rw[List.length_cons];omega⟩
theorem xV(s:zf):Part s cE:=⟨fun h=>(by cases h),Nat.zero_le _,Nat.zero_le _,fun v hv=>(by cases hv)⟩
theorem aca(s:zf)(b:ByteArray)(hb:b.size<=1099511627776):Part s (cY s b).1:=by
 unfold cY
 split
 ·exact xV s
 cases ht:gX s b with
 |inl e=>exact xV s
 |inr q=>
  unfold gX at ht
  split at ht
  ·cases ht
  split at ht
  case isFalse=>cases ht
  rename_i hr
  injection ht with ht
  subst ht
  have h4:=(nq.1 hr.1).1
  show Part s (jM s b (du s.1 b) _).1
  unfold jM
  split
  ·exact⟨fun _=>hr.2,by dsimp only;omega,Nat.zero_le _,fun v hv=>by cases hv⟩
  ·obtain⟨p1,p2⟩:=zys s b hb (elems (aU s.1 b (c9 s.1)).1 (aU s.1 b (c9 s.1)).2.1) (aU s.1 b (c9 s.1)).2.2.1.toNat [] (fun v hv=>by cases hv)
   have:=Da (aU s.1 b (c9 s.1)).1 (aU s.1 b (c9 s.1)).2.1
   rw[List.length_nil] at p2
   exact⟨fun _=>hr.2,by dsimp only;omega,by dsimp only;omega,p1⟩
theorem aeN:yN=some true:=by kernel_rfl
def lM(p:bn)(n:Int)(m:aZ)(f:bA):Int×ByteArray:=
 if eD m.1=true then(if n<((cJ p.1 (z49 p m f.1)).size:Int) then(3,bs []) else(2,cJ p.1 (z49 p m f.1))) else(3,bs [])
def Au(p q:bn)(n:Int)(m:aZ)(t:aZ×bA):Int×ByteArray:=
 if¬t.2.1=0 then lM p n m t.2 else if n<((cJ q.1 t.1).size:Int) then lM p n m (5,129,()) else(1,cJ q.1 t.1)
def At(p q:bn)(n:Int)(d:aZ×bA):Int×ByteArray:=if¬d.2.1=0 then lM p n d.1 d.2 else Au p q n d.1 (mw p.2.1 p.1 q.1 d.1)
def jT(p q:bn)(n:Int)(b:ByteArray):Int×ByteArray:=At p q n (cY p.1 b)
structure mH(p q:bn)(n:Int):Prop where
 n1:1<=n
 n2:n<=65535
 rp:(gG p).1=0
 rq:(gG q).1=0
 mp:(dC p.2.1 p.1 q.1).1=0
 mq:(dC q.2.1 q.1 p.1).1=0
theorem mH.symm{p q:bn}{n:Int}(h:mH p q n):mH q p n:=⟨h.n1,h.n2,h.rq,h.rp,h.mq,h.mp⟩
theorem fJ.symm{p q:bn}(h:fJ p q):fJ q p:=⟨h.sq,h.sp,h.qm,h.pm,h.UW,h.US,h.qe,h.pe,h.qml,h.pml,h.UX,h.UT⟩
theorem HH{p q:bn}{n:Int}:(m3 p q n).1=0↔mH p q n:=by
 unfold m3
 by_cases h1:n<1
 ·rw[zT h1];exact⟨fun h=>(by cases h),fun h=>by have:=h.n1;omega⟩
 by_cases h2:65535<n
 ·rw[zF h1,zT h2];exact⟨fun h=>(by cases h),fun h=>by have:=h.n2;omega⟩
 rw[zF h1,zF h2,zD,zD]
 by_cases h3:(gG p).1=0
 case neg=>rw[zF h3];exact⟨fun h=>absurd h h3,fun h=>absurd h.rp h3⟩
 rw[zT h3,Bool.not_true,zD]
 by_cases h4:(dC p.2.1 p.1 q.1).1=0
 case neg=>rw[zF h4];exact⟨fun h=>absurd h h4,fun h=>absurd h.mp h4⟩
 rw[zT h4,Bool.not_true,zD]
 by_cases h5:(gG q).1=0
 case neg=>rw[zF h5];exact⟨fun h=>absurd h h5,fun h=>absurd h.rq h5⟩
 rw[zT h5,Bool.not_true,zD]
 by_cases h6:(dC q.2.1 q.1 p.1).1=0
 case neg=>rw[zF h6];exact⟨fun h=>absurd h h6,fun h=>absurd h.mq h6⟩
 rw[zT h6]
 exact⟨fun _=>⟨by omega,by omega,h3,h5,h4,h6⟩,fun _=>rfl⟩
theorem HK{s:zf}{m:aZ}(h:eO s m):2<=(cJ s m).size:=by
 have ho:=(sO s).1 h.gV
 have:=(Hj (s:=s) ho.1 (m:=m.1) (y:=bs []) h.right).2
 have hz:2<=c9 s.1:=by unfold c9;split<;>omega
 unfold cJ
 rw[zu,zu]
 omega
theorem Jv{s:zf}{m:aZ}(h:eO s m):oT s m=(cJ s m,zw):=by
 unfold oT
 rw[if_pos (z93.2 h)]
theorem Hg{p q:bn}(h:fJ p q){m:aZ}(hm:dm m)(ht:(mw p.2.1 p.1 q.1 m).2.1=0):eO q.1 (mw p.2.1 p.1 q.1 m).1/\dm (mw p.2.1 p.1 q.1 m).1:=by
 rcases zmp p.2.1 p.1 q.1 m with⟨f,hf,e⟩|⟨ys,hd,e⟩
 ·rw[e] at ht;exact absurd ht hf
 ·rw[e];exact⟨hd.out h.pm hm,hd.ok h.pm hm⟩
section
variable {p q:bn} {n:Int} (h:fJ p q) (h0:mH p q n)
include h h0
theorem zxv{m:aZ}(hm:Part p.1 m)(f:bA)(cl:List bn):jL m f p (cl,n,())=some (lM p n m f):=by
 unfold jL OQ lM
 rw[Z0 p m f h.sp h.pe hm.ok,zc]
 unfold z130
 cases hr:eD m.1 with
 |false=>rfl
 |true=>
  obtain⟨b1,b2,_⟩:=ab0 (acX h0.rp) h.sp h.pe hm f.1 hr
  have hp:=HK b1
  rw[if_pos rfl,if_pos rfl]
  dsimp only
  rw[Bool.not_true,zD,zy4 p.1 _ h.sp.gV b2.ok,zc,Jv b1]
  dsimp only
  rw[zF (fun e=>by rw[e] at hp;exact absurd hp (by decide)),zD]
  by_cases hn:n<((cJ p.1 (z49 p m f.1)).size:Int)
  ·rw[zT hn,if_pos hn];rfl
  ·rw[zF hn,if_neg hn];rfl
theorem Kf(b:ByteArray)(hb:b.size<=1099511627776)(cl:List bn):((pr p.1 b).bind fun r2=>(bif(!(decide (r2.2.1=(0:Int)))) then((jL r2.1 r2.2 p (cl,n,())).bind fun r3=>some (r3.1,r3.2)) else((pw p.2.1 p.1 q.1 r2.1).bind fun r4=>(bif(!(decide (r4.2.1=(0:Int)))) then((jL r2.1 r4.2 p (cl,n,())).bind fun r5=>some (r5.1,r5.2)) else((mS q.1 r4.1).bind fun r6=>(bif(decide (n<((r6.1).size:Int))) then((jL r2.1 ((5:Int),(129:Int),()) p (cl,n,())).bind fun r7=>some (r7.1,r7.2)) else some ((1:Int),r6.1)))))))=some (jT p q n b):=by
 have rW:=aca p.1 b hb
 have iC:=rW.ok
 rw[W5 p.1 b h.sp.gV hb,zc]
 unfold jT At
 by_cases hd:(cY p.1 b).2.1=0
 case neg=>rw[zF hd,Bool.not_false,zC,if_pos hd,zxv h h0 rW,zc]
 rw[zT hd,Bool.not_true,zD,if_neg (fun e=>e hd),Vv p.2.1 p.1 q.1 _ h.pm (by have:=h.pml;omega) iC (by have:=rW.len;omega) h.sp.gV h.sq.gV,zc]
 unfold Au
 by_cases ht:(mw p.2.1 p.1 q.1 (cY p.1 b).1).2.1=0
 case neg=>rw[zF ht,Bool.not_false,zC,if_pos ht,zxv h h0 rW,zc]
 obtain⟨t1,t2⟩:=Hg h iC ht
 rw[zT ht,Bool.not_true,zD,if_neg (fun e=>e ht),zy4 q.1 _ h.sq.gV t2,zc,Jv t1]
 dsimp only
 by_cases hn:n<((cJ q.1 (mw p.2.1 p.1 q.1 (cY p.1 b).1).1).size:Int)
 ·rw[zT hn,zC,if_pos hn,zxv h h0 rW,zc]
 ·rw[zF hn,zD,if_neg hn]
end
def ni(p q:bn)(n link:Int)(b:ByteArray):Int×ByteArray:=
 if¬(m3 p q n).1=0 then(0,bs []) else if link=0 then jT p q n b else if link=1 then jT q p n b else(0,bs [])
theorem z182(p q:bn)(n link:Int)(b:ByteArray)(h:fJ p q)(hb:b.size<=1099511627776):lz ([p,q],n,()) link b=some (ni p q n link b):=by
 unfold lz OP ni
 rw[Vm p q n h,zc]
 by_cases hc:(m3 p q n).1=0
 case neg=>rw[zF hc,if_pos hc];rfl
 have h0:=HH.1 hc
 rw[zT hc,Bool.not_true,zD,if_neg (fun e=>e hc)]
 by_cases l0:link=0
 ·subst l0
  rw[if_pos rfl,zF (by decide),zD,zF (by decide),zD]
  simp only[CW,CX,MN,Mm,Mn]
  exact Kf h h0 b hb [p,q]
 ·rw[if_neg l0]
  by_cases l1:link=1
  ·subst l1
   rw[if_pos rfl,zF (by decide),zD,zF (by decide),zD]
   simp only[CW,CX,MO,Mm,Mn]
   exact Kf h.symm h0.symm b hb [p,q]
  ·rw[if_neg l1]
   by_cases l2:link<0
   ·rw[zT l2];rfl
   ·rw[zF l2,zD,zT (by omega)];rfl
theorem aeO{c:AJ}(hc:Wf zy1 c):∃p q n,c=([p,q],n,())/\∃g,pd c=some g/\(g=false->fJ p q):=by
 obtain⟨p,q,e⟩:=ZP hc.1.1
 obtain⟨cl,n,u⟩:=c
 simp only[Prod.mk.injEq] at e
 obtain⟨rfl,_⟩:=e
 obtain⟨g,hg,iC⟩:=WJ (p:=p) (q:=q) hc
 exact⟨p,q,n,rfl,g,hg,iC⟩
end bu

namespace bu
open Go.IntKind renaming wrap->zW,i64->zI,u8->zU
open Go Go.Ref
section
variable {m:Map} {a b:zf} {x:aZ} {ys:List aO}
end
end bu

namespace bu
open Go.IntKind renaming wrap->zW,i64->zI,u8->zU
open Go Go.Ref
theorem zfz(p:bn)(n:Int)(m:aZ)(f:bA):(lM p n m f).1≠1/\(eD m.1=false->(lM p n m f).1≠2):=by
 unfold lM
 split
 ·rename_i hr
  split
  ·exact⟨by decide,fun _=>by decide⟩
  ·exact⟨show(2:Int)≠1 by decide,fun h=>by rw[hr] at h;cases h⟩
 ·exact⟨by decide,fun _=>by decide⟩
section
variable {p q:bn} {n:Int} (h:fJ p q) (h0:mH p q n)
include h
theorem J0{b s:ByteArray}(hb:b.size<=1099511627776)(ho:jT p q n b=(1,s)):∃m x,eO p.1 m/\dR m/\cJ p.1 m=b/\mw p.2.1 p.1 q.1 m=(x,zw)/\eO q.1 x/\dR x/\s=cJ q.1 x/\(s.size:Int)<=n:=by
 unfold jT At at ho
 split at ho
 ·have:=(zfz p n (cY p.1 b).1 (cY p.1 b).2).1
  rw[ho] at this;exact absurd rfl this
 rename_i hd
 have hd:(cY p.1 b).2.1=0:=Classical.byContradiction hd
 obtain⟨d1,d2,d3,d4⟩:=YP (m:=(cY p.1 b).1) (f:=(cY p.1 b).2) hb rfl hd
 unfold Au at ho
 split at ho
 ·have:=(zfz p n (cY p.1 b).1 (mw p.2.1 p.1 q.1 (cY p.1 b).1).2).1
  rw[ho] at this;exact absurd rfl this
 rename_i ht
 have ht:(mw p.2.1 p.1 q.1 (cY p.1 b).1).2.1=0:=Classical.byContradiction ht
 split at ho
 ·have:=(zfz p n (cY p.1 b).1 (5,129,())).1
  rw[ho] at this;exact absurd rfl this
 rename_i hn
 obtain⟨t1,t2⟩:=Hg h d3.ok ht
 have he:(mw p.2.1 p.1 q.1 (cY p.1 b).1).2=zw:=by
  rcases zmp p.2.1 p.1 q.1 (cY p.1 b).1 with⟨f,hf,e⟩|⟨ys,_,e⟩
  ·rw[e] at ht;exact absurd ht hf
  ·rw[e]
 injection ho with _ ho
 exact⟨_,_,d2,d3,d4,Prod.ext rfl he,t1,zt6 t2 t1,ho.symm,by rw[<-ho];omega⟩
include h0
end
theorem ac7{s:zf}{x:aZ}(hs:s.2.2.1.length<=maxLen)(h:eO s x)(hx:dR x):pf s (cJ s x)=some (x,true):=by
 have hz:=YZ (s:=s) hx
 unfold pf N1
 rw[VO s _ hs (by omega),zc,ab9 h hx]
 dsimp only
 rw[zT (p:=(0:Int)=0) rfl,zC,Wh s x hs hx.ok,zc,h.eq]
 rfl
theorem WS{p q:bn}{n link:Int}{b:ByteArray}(h:(ni p q n link b).1≠0):mH p q n/\((link=0/\ni p q n link b=jT p q n b)\/(link=1/\ni p q n link b=jT q p n b)):=by
 unfold ni at h⊢
 by_cases hc:(m3 p q n).1=0
 case neg=>rw[if_pos hc] at h;exact absurd rfl h
 rw[if_neg (fun e=>e hc)] at h⊢
 refine⟨HH.1 hc,?_⟩
 by_cases l0:link=0
 ·rw[if_pos l0];exact .inl ⟨l0,rfl⟩
 ·rw[if_neg l0] at h⊢
  by_cases l1:link=1
  ·rw[if_pos l1];exact .inr ⟨l1,rfl⟩
  ·rw[if_neg l1] at h;exact absurd rfl h
theorem gb(c:AJ)(link:Int)(b:ByteArray)(hc:Wf zy1 c)(hl:Wf (.int .i64) link)(hb:Wf .str b):Eu c link b=some true:=by
 obtain⟨p,q,n,rfl,g,hg,iC⟩:=aeO hc
 unfold Eu Rq
 rw[aeN,zc,Bool.not_true,zD,hg,zc]
 cases g with
 |true=>rfl
 |false=>
  have h:=iC rfl
  rw[zD]
  by_cases hs:(3000:Int)<(b.size:Int)
  ·rw[zT hs];rfl
  rw[zF hs,zD,z182 p q n link b h (by omega),zc]
  have fin:∀(there:bn) (s:ByteArray) (x:aZ),there.1.2.2.1.length<=maxLen->eO there.1 x->dR x->s=cJ there.1 x->(s.size:Int)<=n->((pf there.1 s).bind fun r7=>(bif r7.2 then((pc there.1 r7.1).bind fun r8=>(bif(decide (s=r8)) then(bif(decide ((s.size:Int)<=n)) then some (decide ((0:Int)<((s).size:Int))) else some false) else some false)) else some false))=some true:=fun there s x h1 h2 h3 h4 h5=>by
   have:=HK h2
   subst h4
   rw[ac7 h1 h2 h3,zc]
   dsimp only
   rw[zC,Z1 _ _ h1 h2 h3,zc,zT rfl,zC,zT h5,zC,zT (by omega)]
  by_cases hk:(ni p q n link b).1=1
  case neg=>rw[zF hk];rfl
  obtain⟨h0,dw⟩:=WS (p:=p) (q:=q) (n:=n) (link:=link) (b:=b) (by rw[hk];decide)
  rw[zT hk,Bool.not_true,zD]
  rcases dw with⟨rfl,e⟩|⟨rfl,e⟩
  ·rw[e] at hk⊢
   obtain⟨m,x,_,_,_,_,x1,x2,x3,x4⟩:=J0 h (b:=b) (s:=(jT p q n b).2) (by omega) (Prod.ext hk rfl)
   rw[zF (by decide),zD,zF (by decide),zD]
   simp only[CW,CX,MN,Mm,Mn]
   exact fin q _ x h.sq.gV x1 x2 x3 x4
  ·rw[e] at hk⊢
   obtain⟨m,x,_,_,_,_,x1,x2,x3,x4⟩:=J0 h.symm (b:=b) (s:=(jT q p n b).2) (by omega) (Prod.ext hk rfl)
   rw[zF (by decide),zD,zF (by decide),zD]
   simp only[CW,CX,MO,Mm,Mn]
   exact fin p _ x h.sp.gV x1 x2 x3 x4
end bu

