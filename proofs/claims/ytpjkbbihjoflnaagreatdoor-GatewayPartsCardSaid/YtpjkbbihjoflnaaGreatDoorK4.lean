/- No condition. -/
import Derived.Test.YtpjkbbihjoflnaaGreatDoorK3
import Derived.Test.YtpjkbbihjoflnaaGreatDoorProg
set_option linter.unusedVariables false
set_option linter.unusedSimpArgs false
set_option maxRecDepth 100000
namespace bn
open Go.IntKind renaming wrap->zW,i64->zI,u8->zU
open Go Go.Ref
abbrev AJ:Ty:= .pair .str (.pair .str .unit)
abbrev Kq:Ty:= .pair (.int .i64) (.pair (.int .i64) (.pair (.int .i64) (.pair .str (.pair (.sl 0 AJ) .unit))))
abbrev Kp:Ty:= .pair (.sl 0 AJ) (.pair (.sl 0 Kq) .unit)
def small(n:Nat)(l:List bA):Bool:=l.all fun p=> !decide ((n:Int)<(p.1.size:Int))&& !decide ((n:Int)<(p.2.1.size:Int))
theorem MN{n:Nat}{l:List bA}(hn:n<=1200)(h:small n l=true):∀p∈l,p.1.size<=1099511627776/\p.2.1.size<=1099511627776:=fun p hp=>by
 have:=List.all_eq_true.1 h p hp
 simp only[Bool.and_eq_true,Bool.not_eq_true',decide_eq_false_iff_not] at this
 omega
def grR(t:Bool):Option (Sum Bool Unit):=some (bif t then .inr () else .inl true)
theorem Ou:∀(l:List bA) (i:Int),bj (fun i (p:bA) (s:Unit) K=>bif(decide (1200<((p.1).size:Int))) then some (Sum.inl true) else(bif(decide (1200<((p.2.1).size:Int))) then some (Sum.inl true) else K s)) (fun _=>some (Sum.inr ())) l i ()=grR (small 1200 l)
 | [],i=>rfl
 |p::r,i=>by
  simp only[bj,small,List.all_cons]
  by_cases h1:(1200:Int)<(p.1.size:Int)
  ·rw[zT h1,zT (show((1200:Nat):Int)<(p.1.size:Int) from h1)];rfl
  ·rw[zF h1,zF (show¬((1200:Nat):Int)<(p.1.size:Int) from h1)]
   by_cases h2:(1200:Int)<(p.2.1.size:Int)
   ·rw[zT h2,zT (show((1200:Nat):Int)<(p.2.1.size:Int) from h2)];rfl
   ·rw[zF h2,zF (show¬((1200:Nat):Int)<(p.2.1.size:Int) from h2)]
    exact Ou r (i+1)
def x8(r:aU):Bool:=decide ((1200:Int)<(r.2.2.2.1.size:Int))||(decide ((300:Int)<(r.2.2.2.2.1.length:Int))|| !small 1200 r.2.2.2.2.1)
theorem acw(r:aU)(h:r.2.2.2.2.1.length<=maxLen):nP r=some (x8 r):=by
 unfold nP SQ x8
 cases decide ((1200:Int)<(r.2.2.2.1.size:Int)) with
 |true=>rfl
 |false=>
  cases decide ((300:Int)<(r.2.2.2.2.1.length:Int)) with
  |true=>rfl
  |false=>
   simp only[zD,Bool.false_or]
   have:=ng jc r.2.2.2.2.1 h (fun i (p:bA) (s:Unit) K=>bif(decide (1200<((p.1).size:Int))) then some (Sum.inl true) else(bif(decide (1200<((p.2.1).size:Int))) then some (Sum.inl true) else K s)) (fun _=>some (Sum.inr ()))
    (fun k i s=>xS k i r) (fun k i s h0 h1=>by
      show xS (k+1) i r=_
      conv=>lhs;unfold xS Pm
      rw[zT h1,zC,zm h0 h1,zm h0 h1]
      rfl) (fun k s=>by
      show xS (k+1) r.2.2.2.2.1.length r=_
      conv=>lhs;unfold xS Pm
      rw[zF (by omega),zD]) ()
   rw[this,Ou]
   unfold grR
   cases small 1200 r.2.2.2.2.1<;>rfl
theorem af2{r:aU}(h:x8 r=false):dR r:=by
 unfold x8 at h
 simp only[Bool.or_eq_false_iff,decide_eq_false_iff_not,Bool.not_eq_false'] at h
 obtain⟨h1,h2,h3⟩:=h
 exact⟨by omega,by omega,MN (by omega) h3⟩
theorem Ot(m:Map):∀(l:List bA) (i:Int),bj (fun i (p:bA) (s:Unit) K=>bif(decide (100<((p.1).size:Int))) then some (Sum.inl (true,m)) else(bif(decide (100<((p.2.1).size:Int))) then some (Sum.inl (true,m)) else K s)) (fun _=>some (Sum.inr m)) l i ()=some (bif small 100 l then .inr m else .inl (true,m))
 | [],i=>rfl
 |p::r,i=>by
  simp only[bj,small,List.all_cons]
  by_cases h1:(100:Int)<(p.1.size:Int)
  ·rw[zT h1,zT (show((100:Nat):Int)<(p.1.size:Int) from h1)];rfl
  ·rw[zF h1,zF (show¬((100:Nat):Int)<(p.1.size:Int) from h1)]
   by_cases h2:(100:Int)<(p.2.1.size:Int)
   ·rw[zT h2,zT (show((100:Nat):Int)<(p.2.1.size:Int) from h2)];rfl
   ·rw[zF h2,zF (show¬((100:Nat):Int)<(p.2.1.size:Int) from h2)]
    exact Ot m r (i+1)
theorem Oq:∀(l:List aU) (i:Int),(∀r∈l,r.2.2.2.2.1.length<=maxLen)->bj (fun i (x:aU) (s:Unit) K=>((nP x).bind fun r1=>(bif r1 then some (Sum.inl true) else K s))) (fun _=>some (Sum.inr ())) l i ()=some (bif l.any x8 then Sum.inl true else Sum.inr ())
 | [],i,_=>rfl
 |r::l,i,h=>by
  simp only[bj,List.any_cons]
  rw[acw r (h r List.mem_cons_self),Option.bind_some]
  cases x8 r with
  |true=>rfl
  |false=>exact Oq l (i+1) fun q hq=>h q (List.mem_cons_of_mem _ hq)
def Bc(m:Map):Bool:=decide ((300:Int)<(m.1.length:Int))||(decide ((300:Int)<(m.2.1.length:Int))||(!small 100 m.1||m.2.1.any x8))
theorem acx(m:Map)(h1:m.1.length<=maxLen)(h2:m.2.1.length<=maxLen)(h3:∀r∈m.2.1,r.2.2.2.2.1.length<=maxLen):lE m=some (Bc m):=by
 unfold lE S4 Bc
 cases decide ((300:Int)<(m.1.length:Int)) with
 |true=>rfl
 |false=>
  cases decide ((300:Int)<(m.2.1.length:Int)) with
  |true=>rfl
  |false=>
   simp only[zD,Bool.false_or]
   have e1:=ng jc m.1 h1 (fun i (p:bA) (s:Unit) K=>bif(decide (100<((p.1).size:Int))) then some (Sum.inl (true,m)) else(bif(decide (100<((p.2.1).size:Int))) then some (Sum.inl (true,m)) else K s)) (fun _=>some (Sum.inr m))
    (fun k i s=>xT k i m) (fun k i s h0 h1=>by
      show xT (k+1) i m=_
      conv=>lhs;unfold xT Ps
      rw[zT h1,zC,zm h0 h1,zm h0 h1]
      rfl) (fun k s=>by
      show xT (k+1) m.1.length m=_
      conv=>lhs;unfold xT Ps
      rw[zF (by omega),zD]) ()
   rw[e1,Ot]
   cases small 100 m.1 with
   |false=>rfl
   |true=>
    simp only[zC,Option.bind_some,Sum.elim_inr,Bool.not_true,Bool.false_or]
    unfold S5
    have e2:=cu gE m.2.1 h2 (fun i (x:aU) (s:Unit) K=>((nP x).bind fun r1=>(bif r1 then some (Sum.inl true) else K s))) (fun _=>some (Sum.inr ()))
     (fun k i s=>Pr k i m) (fun k i s=>rfl) ()
    dsimp only
    rw[e2,Oq _ _ h3]
    cases m.2.1.any x8<;>rfl
theorem Lf{m:Map}(h:Bc m=false):dG m:=by
 unfold Bc at h
 simp only[Bool.or_eq_false_iff,decide_eq_false_iff_not,Bool.not_eq_false'] at h
 obtain⟨h1,h2,h3,h4⟩:=h
 refine⟨⟨by omega,MN (by omega) h3⟩,by omega,fun r hr=>af2 ?_⟩
 cases hg:x8 r with
 |false=>rfl
 |true=>rw[List.any_eq_true.2 ⟨r,hr,hg⟩] at h4;cases h4
theorem MV{m:Map}(h:Wf Kp m):lE m=some (Bc m):=
 acx m h.1.1 h.2.1.1 fun r hr=>(h.2.1.2 r hr).2.2.2.2.1.1
theorem abX{r:aU}{b:zf}{t:ByteArray}(ht:t.size<=1099511627776)(hr:dR r):(gk r b t).1.2.1.size<=1099511627776:=by
 have h0:(bs []).size<=1099511627776:=by decide
 unfold gk
 cases decide (r.1=1) with
 |true=>exact ht
 |false=>
  rw[zD]
  cases decide (r.1=2) with
  |true=>exact h0
  |false=>
   rw[zD]
   cases decide (r.1=3) with
   |true=>exact hr.text
   |false=>
    rw[zD]
    cases decide (r.1=4) with
    |true=>
     rw[zC]
     cases bq b r.2.2.1 with
     |false=>exact h0
     |true=>
      rw[Bool.not_true,zD]
      cases hp:(fE t (aY b r.2.2.1).2.2.2.1).2 with
      |false=>exact h0
      |true=>
       obtain⟨p1,p2,p3,p4⟩:=NT hp
       show(fE t (aY b r.2.2.1).2.2.2.1).1.size<=_
       omega
    |false=>
     rw[zD]
     cases decide (r.1=5) with
     |true=>
      rw[zC]
      cases hp:(zw r.2.2.2.2.1 t).2 with
      |false=>exact h0
      |true=>
       obtain⟨p,hm,_,hq⟩:=zd7 hp
       show(zw r.2.2.2.2.1 t).1.size<=_
       rw[hq]
       exact(hr.fc.sz p hm).2
     |false=>exact h0
theorem zhy{m:Map}{b:zf}:∀{l:List bh} {f:bY},kl m b l= .inl f->f.1≠0
 | [],f,h=>by cases h
 |v::r,f,h=>by
  rw[kl] at h
  cases hf:eU m v.1 with
  |none=>rw[hf] at h;cases h;exact(by decide:(9:Int)≠0)
  |some q=>
   rw[hf] at h
   dsimp only at h
   by_cases hz:(gk q b v.2.1).2=0
   ·rw[zT hz,Bool.not_true,zD] at h
    cases hr:kl m b r with
    |inl g=>rw[hr] at h;cases h;exact zhy hr
    |inr ys=>rw[hr] at h;cases h
   ·rw[zF hz,Bool.not_false,zC] at h
    cases h;exact hz
structure cr(m:Map)(a b:zf)(x:bJ)(ys:List bh):Prop where
 map:eK m a b
 msg:kx a x
 head:(zw m.1 x.1).2=true
 uJ:kl m b x.2.1= .inr ys
theorem ack(m:Map)(a b:zf)(x:bJ):(∃f,f.1≠0/\rI m a b x=(dn,f))\/∃ys,cr m a b x ys/\rI m a b x=(((zw m.1 x.1).1,nG (ys++jE m.2.1) 127 2,()),km):=by
 rw[zvu]
 unfold XW
 by_cases h1:(du m a b).1=0
 ·rw[zT h1,Bool.not_true,zD]
  by_cases h2:(gy a x).1=0
  ·rw[zT h2,Bool.not_true,zD]
   cases h3:(zw m.1 x.1).2 with
   |false=>exact .inl ⟨_,by decide,rfl⟩
   |true=>
    rw[Bool.not_true,zD]
    cases h4:kl m b x.2.1 with
    |inl f=>exact .inl ⟨f,zhy h4,rfl⟩
    |inr ys=>exact .inr ⟨ys,⟨zqf.1 h1,Pd.1 h2,h3,h4⟩,rfl⟩
  ·rw[zF h2];exact .inl ⟨_,h2,rfl⟩
 ·rw[zF h1];exact .inl ⟨_,by decide,rfl⟩
theorem cr.eq{m:Map}{a b:zf}{x:bJ}{ys:List bh}(h:cr m a b x ys):rI m a b x=(((zw m.1 x.1).1,nG (ys++jE m.2.1) 127 2,()),km):=by
 rw[zvu]
 unfold XW
 rw[zT (zqf.2 h.map),Bool.not_true,zD,zT (Pd.2 h.msg),Bool.not_true,zD,h.head,h.uJ]
 rfl
section
variable {m:Map} {a b:zf} {x:bJ} {ys:List bh}
theorem cr.js(h:cr m a b x ys):(∀v∈x.2.1,bq a v.1=true/\bH (aY a v.1) v.2.1=0)/\jN x.2.1/\∀v∈x.2.1,0<v.1:=z31.1 h.msg.js
theorem cr.ris(h:cr m a b x ys):jN (nG (ys++jE m.2.1) 127 2):=by
 obtain⟨g1,g2,g3⟩:=h.js
 refine zdd ?_ 127 2 (by omega)
 rw[zii,zij h.map]
 exact zuf (KD h.map g2 (fun v hv=>(g1 v hv).1) h.uJ)
theorem cr.mem(h:cr m a b x ys)(v:bh):v∈nG (ys++jE m.2.1) 127 2↔v∈jE m.2.1\/(v∈ys/\v.1≠0):=by
 rw[RS,List.mem_append]
 have hr:=z119 h.map h.uJ
 constructor
 ·rintro⟨h1|h1,h2,h3⟩
  ·exact .inr ⟨h1,by omega⟩
  ·exact .inl h1
 ·rintro(h1|⟨h1,h2⟩)
  ·have:=Eg h.map.okB (hr v (List.mem_append_left _ h1))
   exact⟨.inr h1,by omega,by omega⟩
  ·have:=Eg h.map.okB (hr v (List.mem_append_right _ (F0.2 ⟨h1,h2⟩)))
   exact⟨.inl h1,by omega,by omega⟩
theorem cr.valid(h:cr m a b x ys)(hm:dG m)(hx:eN x):∀v∈nG (ys++jE m.2.1) 127 2,bq b v.1=true/\v.2.1.size<=1099511627776/\bH (aY b v.1) v.2.1=0:=by
 intro v hv
 obtain⟨g1,g2,g3⟩:=h.js
 rcases(h.mem v).1 hv with hv|⟨hv,hz⟩
 ·obtain⟨r,hr,k,rfl⟩:=RV.1 hv
  have hc:=(RZ (h.map.rules r hr)).2.2.2
  unfold j9 at hc
  rw[zF (by omega:¬r.1=1),zT k,zD,zC] at hc
  exact⟨h.map.to hr (by omega),(hm.rules r hr).text,hc⟩
 ·obtain⟨w,hw,q,hf,h0,rfl⟩:=OM h.uJ v hv
  obtain⟨b1,b2⟩:=OY h0 hz
  obtain⟨qm,qf⟩:=FX hf
  have hwt:=hx.rV w hw
  have:=(abY (r:=q) (a:=a) (b:=b) hwt (hm.rules q qm) (h.map.rules q qm) h.map.okB (fun _=>by rw[qf];exact(g1 w hw).2)).2 h0
  obtain⟨e1,e2,e3⟩:=this.2 b1
  rw[b2]
  exact⟨e2,abX hwt (hm.rules q qm),e3⟩
theorem ag3{t:ByteArray}{v:Int}(h:iA t v=true):fJ t=true/\gj t=v:=by
 unfold iA at h
 rw[Bool.and_eq_true,decide_eq_true_eq] at h
 refine⟨h.1,?_⟩
 unfold gj
 rw[h.1];exact h.2
theorem cr.uq(h:cr m a b x ys):fJ (zw m.1 x.1).1=true/\gj (zw m.1 x.1).1=b.2.1:=by
 obtain⟨p,hp,_,e⟩:=zd7 h.head
 have ht:=h.map.typed p hp
 unfold nL at ht
 rw[Bool.and_eq_true,Bool.and_eq_true] at ht
 rw[e]
 exact ag3 ht.2.1
theorem cr.out(h:cr m a b x ys)(hm:dG m)(hx:eN x):kx b ((zw m.1 x.1).1,nG (ys++jE m.2.1) 127 2,()):=by
 have hv:=h.valid hm hx
 refine⟨h.map.sb,h.uq.1,h.uq.2,z31.2 ⟨fun v hm=>⟨(hv v hm).1,(hv v hm).2.2⟩,h.ris,fun v hm=> ?_⟩⟩
 have:=Eg h.map.okB (hv v hm).1
 omega
end
theorem C1:∀{l:List bh} {lo:Int},jN l->(∀v∈l,lo<v.1/\v.1<=128)->(l.length:Int)<=max 0 (128-lo)
 | [],lo,_,_=>by simp;omega
 |x::r,lo,h,hr=>by
  have h:=List.pairwise_cons.1 h
  have hx:=hr x List.mem_cons_self
  have:=C1 (l:=r) (lo:=x.1) h.2 (fun v hv=>⟨h.1 v hv,(hr v (List.mem_cons_of_mem _ hv)).2⟩)
  simp only[List.length_cons]
  omega
theorem cr.ok{m:Map}{a b:zf}{x:bJ}{ys:List bh}(h:cr m a b x ys)(hm:dG m)(hx:eN x):eN ((zw m.1 x.1).1,nG (ys++jE m.2.1) 127 2,()):=by
 have hv:=h.valid hm hx
 refine⟨?_,?_,fun v iX=>(hv v iX).2.1⟩
 ·have:=(ru.1 h.uq.1).1
  show(zw m.1 x.1).1.size<=_
  omega
 ·have:=C1 (lo:=0) h.ris (fun v iX=>by have:=Eg h.map.okB (hv v iX).1;omega)
  show(nG (ys++jE m.2.1) 127 2).length<=_
  omega
def Jb(m:Map)(b:zf)(v:bh):Prop:=∃q,eU m v.1=some q/\(gk q b v.2.1).2=0
theorem RW{m:Map}{b:zf}:∀{l:List bh},(∃ys,kl m b l= .inr ys)↔∀v∈l,Jb m b v
 | []=>⟨fun _ v hv=>(by cases hv),fun _=>⟨[],rfl⟩⟩
 |v::r=>by
  rw[kl]
  constructor
  ·rintro⟨ys,h⟩ w hw
   cases hf:eU m v.1 with
   |none=>rw[hf] at h;cases h
   |some q=>
    rw[hf] at h
    dsimp only at h
    cases hz:decide ((gk q b v.2.1).2=0) with
    |false=>rw[hz] at h;cases h
    |true=>
     rw[hz,Bool.not_true,zD] at h
     rcases List.mem_cons.1 hw with rfl|hw
     ·exact⟨q,hf,of_decide_eq_true hz⟩
     ·cases hr:kl m b r with
      |inl g=>rw[hr] at h;cases h
      |inr zs=>exact RW.1 ⟨zs,hr⟩ w hw
  ·intro h
   obtain⟨q,hf,hz⟩:=h v List.mem_cons_self
   obtain⟨zs,hr⟩:=RW.2 fun w hw=>h w (List.mem_cons_of_mem _ hw)
   rw[hf,hr]
   dsimp only
   rw[zT hz]
   exact⟨_,rfl⟩
theorem cr.part{m:Map}{a b:zf}{x:bJ}{ys:List bh}(h:cr m a b x ys){l:List bh}(hl:List.Sublist l x.2.1):∃zs,cr m a b (x.1,l,()) zs:=by
 obtain⟨g1,g2,g3⟩:=h.js
 obtain⟨zs,hz⟩:=RW.2 fun v hv=>RW.1 ⟨ys,h.uJ⟩ v (hl.subset hv)
 exact⟨zs,h.map,⟨h.msg.iw,h.msg.right,h.msg.ver,z31.2 ⟨fun v hv=>g1 v (hl.subset hv),g2.sublist hl,fun v hv=>g3 v (hl.subset hv)⟩⟩,h.head,hz⟩
end bn

namespace bn
open Go.IntKind renaming wrap->zW,i64->zI,u8->zU
open Go Go.Ref
def iP(ae:Int)(m:ByteArray):ByteArray:=if ae=1 then m else(qu m).1
def tA(s:zf):List bh->ByteArray
 | []=>bs []
 |v::r=>(A5 s.1 (aY s v.1) v.2.1).1++tA s r
def jt(m:bJ):List Int:=m.2.1.map fun v=>v.1
def jq(s:zf)(m:bJ):ByteArray:=iP s.1 m.1++(fO s.1 (dE (jt m)) (dF (jt m))).1++tA s m.2.1
theorem age(m:bJ)(h:m.2.1.length<=1000000):sL m=some ((dE (jt m):Int),(dF (jt m):Int),()):=by
 unfold sL TR
 dsimp only
 have key:∀(l:List bh) (i:Int) (p:List Int),bj (fun i (x:bh) (b:vC) K=>(yj b x.1).bind fun r1=>K r1) (fun b=>some (((0:Int),(0:Int),()),b)) l i ((dE p:Int),(dF p:Int),())=some (((0:Int),(0:Int),()),((dE (p++l.map fun v=>v.1):Int),(dF (p++l.map fun v=>v.1):Int),())):=by
  intro l
  induction l with
  |nil=>intro i p;rw[List.map_nil,List.append_nil];rfl
  |cons x r ih=>
   intro i p
   rw[bj,Nt _ _ (uV p) (uW p),zc]
   have e1:dE p|||iE x.1=dE (p++ [x.1]):=by unfold dE;rw[List.foldl_append];rfl
   have e2:dF p|||iF x.1=dF (p++ [x.1]):=by unfold dF;rw[List.foldl_append];rfl
   rw[e1,e2]
   dsimp only
   rw[ih (i+1) (p++ [x.1]),List.map_cons,List.append_assoc];rfl
 have:=cu ns m.2.1 (by rw[zh];omega) (fun i (x:bh) (b:vC) K=>(yj b x.1).bind fun r1=>K r1) (fun b=>some (((0:Int),(0:Int),()),b)) (fun k i b=>PG k m.2.1 (m.2.1.length:Int) i ((0:Int),(0:Int),()) b) (fun k i b=>rfl) ((0:Int),(0:Int),())
 rw[this]
 have k2:=key m.2.1 0 []
 rw[show dE []=0 from rfl,show dF []=0 from rfl] at k2
 rw[show((0:Nat):Int)=0 from rfl] at k2
 rw[k2];rfl
theorem agX(ae:Int)(m:ByteArray):(iP ae m).size<=m.size+500:=by
 unfold iP
 split
 ·omega
 ·have:=zhd m;omega
theorem acI(ae:Int)(h l:Nat):(fO ae h l).1.size<=32:=by
 have hz:gW ae<=16:=by unfold gW;split<;>omega
 unfold fO
 split
 ·dsimp only
  split
  ·rw[zht];omega
  ·rw[AY,zht,zht];omega
 ·exact Nat.zero_le _
theorem abv(ae:Int)(s:Spec)(t:ByteArray):(A5 ae s t).1.size<=2*t.size+1000:=by
 unfold A5
 split
 ·exact Nat.zero_le _
 ·split
  ·exact Nat.zero_le _
  ·dsimp only
   rw[AY]
   have:=LF ae s.2.2.1 t.size
   have:=KQ (c8 ae s.2.1) t
   omega
structure pC(m:bJ):Prop where
 uq:m.1.size<=1000
 len:m.2.1.length<=1000
 rV:∀v∈m.2.1,v.2.1.size<=1000
theorem pC.ok{m:bJ}(h:pC m):eN m:=⟨by have:=h.uq;omega,by have:=h.len;omega,fun v hv=>by have:=h.rV v hv;omega⟩
theorem ac9{s:zf}{m:bJ}(hm:eN m)(h:kx s m):pC m:=by
 have ho:=(AV s).1 h.iw
 obtain⟨f1,f2,f3⟩:=z31.1 h.js
 refine⟨by have:=(ru.1 h.right).1;omega,?_,fun v hv=> ?_⟩
 ·have:=C1 (lo:=0) f2 (fun v hv=>by
   have:=Sz (Si ho (f1 v hv).1)
   have e:=(Sv (f1 v hv).1).2
   rw[e] at this
   exact⟨by omega,by omega⟩)
  omega
 ·obtain⟨v1,v2,v3,_,_⟩:=(Pf _ _ (hm.rV v hv)).1 (f1 v hv).2
  have:=VA v1
  omega
theorem C6{x o:ByteArray}(h:o.size+x.size<=140737488355328):jK x o=some (o++x):=by
 unfold jK U5 RL
 rw[zT h,zC,zc]
theorem z171(s:zf)(hs:s.2.2.1.length<=maxLen)(f:bY):∀(l:List bh) (i:Int) (o:ByteArray),(∀v∈l,v.2.1.size<=1000)->o.size+3000*l.length<=100000000->
 bj (fun i (x:bh) (o:ByteArray) K=>(fK s x.1).bind fun r7=>(Bh s.1 r7.1 x.2.1).bind fun r8=>(jK r8.1 o).bind fun r9=>K r9) (fun o=>some (f,o)) l i o=some (f,o++tA s l)
 | [],i,o,_,_=>by rw[tA,Nw];rfl
 |x::r,i,o,h,ho=>by
  have hx:=h x List.mem_cons_self
  have hc:=abv s.1 (aY s x.1) x.2.1
  rw[List.length_cons] at ho
  rw[bj,z49 s _ hs,zc,acK _ _ _ (by omega),zc]
  dsimp only
  rw[C6 (by omega),zc]
  rw[z171 s hs f r (i+1) _ (fun v hv=>h v (List.mem_cons_of_mem _ hv)) (by rw[AY];omega),tA,ByteArray.append_assoc]
theorem akj(ae:Int)(m:ByteArray)(hm:fJ m=true)(hs:ae=1\/ae=2):∃k,td ae m=some (iP ae m,k):=by
 have h4:=(ru.1 hm).1
 unfold td U6 iP
 rw[zap m (by rw[zh];omega),zc,hm,Bool.not_true,zD]
 rcases hs with rfl|rfl
 ·exact⟨true,rfl⟩
 ·rw[zF (by decide),zD,zT rfl,zC,zhc m (by rw[zh];omega),zc,if_neg (by decide)]
  exact⟨_,rfl⟩
def qo(s:zf)(m:bJ):ByteArray×bY:=if(gy s m).1=0 then(jq s m,km) else(bs [],gy s m)
theorem z116(s:zf)(m:bJ)(hs:s.2.2.1.length<=maxLen)(h:eN m):nY s m=some (qo s m):=by
 unfold nY U4 qo
 rw[zob s m hs h,zc]
 by_cases h0:(gy s m).1=0
 case neg=>rw[zF h0,if_neg h0];rfl
 have hm:=Pd.1 h0
 have FE:=ac9 h hm
 have ho:=(AV s).1 hm.iw
 obtain⟨k,hk⟩:=akj s.1 m.1 hm.right ho.1
 have ht:=agX s.1 m.1
 have hb:=acI s.1 (dE (jt m)) (dF (jt m))
 have:=FE.uq
 have:=FE.len
 rw[zT h0,Bool.not_true,zD,if_pos h0,hk,zc,age m (by omega)]
 have w1:jK (iP s.1 m.1) (bs [])=some (iP s.1 m.1):=by
  rw[C6 (by show 0+_<=_;omega),D2]
 have w2:jK (fO s.1 (dE (jt m)) (dF (jt m))).1 (iP s.1 m.1)=some (iP s.1 m.1++(fO s.1 (dE (jt m)) (dF (jt m))).1):=C6 (by omega)
 dsimp only
 rw[w1,zc,zc,ai9 _ _ _ (uV _) (uW _),zc,w2,zc]
 have hl:=cu ns m.2.1 (by rw[zh];omega) (fun i (x:bh) (o:ByteArray) K=>(fK s x.1).bind fun r7=>(Bh s.1 r7.1 x.2.1).bind fun r8=>(jK r8.1 o).bind fun r9=>K r9) (fun o=>some (km,o)) (fun k i o=>PW k m.2.1 (m.2.1.length:Int) i s km o) (fun k i o=>rfl) (iP s.1 m.1++(fO s.1 (dE (jt m)) (dF (jt m))).1)
 rw[hl,z171 s hs _ m.2.1 0 _ FE.rV (by rw[AY];omega)]
 rfl
end bn

set_option maxRecDepth 10000
namespace bn
open Go.IntKind renaming wrap->zW,i64->zI,u8->zU
open Go Go.Ref
def iz(ae:Int):Nat:=if ae=2 then 2 else 4
def iQ(ae:Int)(b:ByteArray):ByteArray:=if ae=2 then(kK (b.extract 0 2) 4).1 else b.extract 0 4
def ot(s:zf)(b:ByteArray):Sum Int mN:=
 if b.size<iz s.1 then .inl 2 else if fJ (iQ s.1 b)=true/\gj (iQ s.1 b)=s.2.1 then .inr (iQ s.1 b,iz s.1) else .inl 7
def kA(s:zf)(b:ByteArray):List Int->Nat->List bh->List bh×bY
 | [],a,o=>(o,if a<b.size then(12,129,()) else km)
 |no::r,a,o=>if bq s no=false then(o,(9,no,())) else if¬(qs s.1 (aY s no) b a).2.2=0 then(o,((qs s.1 (aY s no) b a).2.2,no,())) else kA s b r (qs s.1 (aY s no) b a).2.1.toNat (o++ [(no,(qs s.1 (aY s no) b a).1,())])
def wT(s:zf)(b t:ByteArray)(g:Nat×Nat×Int×Int):bJ×bY:=
 if¬g.2.2.2=0 then((t,[],()),(g.2.2.2,1,())) else((t,(kA s b (elems g.1 g.2.1) g.2.2.1.toNat []).1,()),(kA s b (elems g.1 g.2.1) g.2.2.1.toNat []).2)
def I8(s:zf)(b:ByteArray):Sum Int mN->bJ×bY
 | .inl e=>(dn,(e,0,()))
 | .inr q=>wT s b q.1 (cS s.1 b q.2)
def mT(s:zf)(b:ByteArray):bJ×bY:=if¬(gX s).1=0 then(dn,(1,-1,())) else I8 s b (ot s b)
def Cw:Sum Int mN->ByteArray×Int×Int
 | .inl e=>(bs [],0,e)
 | .inr q=>(q.1,(q.2:Int),0)
theorem agY(ae:Int)(b:ByteArray):(iQ ae b).size<=2000:=by
 unfold iQ
 split
 ·generalize hg:kK (b.extract 0 2) 4=g
  obtain⟨t,e,i⟩:=g
  have:=zad hg
  dsimp only;omega
 ·rw[ByteArray.size_extract];omega
theorem LS(s:zf)(t:ByteArray)(z:Nat)(ht:t.size<=2000):((jj t).bind fun r3=>(bif(!r3.2) then some (bs [],(0:Int),(7:Int)) else(bif(!(decide (r3.1=s.2.1))) then some (bs [],(0:Int),(7:Int)) else some (t,(z:Int),(0:Int)))))=some (Cw (if fJ t=true/\gj t=s.2.1 then .inr (t,z) else .inl 7)):=by
 rw[RR t (by rw[zh];omega),zc]
 dsimp only
 cases hr:fJ t with
 |false=>rfl
 |true=>
  rw[Bool.not_true,zD]
  by_cases hv:gj t=s.2.1
  ·rw[zT hv,if_pos ⟨rfl,hv⟩];rfl
  ·rw[zF hv,if_neg (fun h=>hv h.2)];rfl
theorem agZ(s:zf)(b:ByteArray)(hb:b.size<=1099511627776):s6 s b=some (Cw (ot s b)):=by
 have h4:Q2 4=some 2:=by have:=OR 4 (by decide) (by decide);exact this
 have e0:((2:Int)).toNat=2:=rfl
 have e4:((4:Int)).toNat=4:=rfl
 have kq:=agY s.1 b
 unfold s6 UN ot
 by_cases h2:s.1=2
 ·have hz:iz 2=2:=rfl
  have hT:iQ 2 b=(kK (b.extract 0 2) 4).1:=rfl
  rw[h2] at kq
  simp only[h2,decide_true,zC,h4,zc,e0]
  rw[hz]
  by_cases hc:b.size<2
  ·rw[zT (by omega),if_pos hc];rfl
  ·rw[zF (by omega),zD,zT (by decide),zC,zT (by omega),zC,if_neg hc,zhb _ _ (by rw[ByteArray.size_extract];omega),zc,<-hT]
   exact LS s (iQ 2 b) 2 kq
 ·have hz:iz s.1=4:=by unfold iz;rw[if_neg h2]
  have hT:iQ s.1 b=b.extract 0 4:=by unfold iQ;rw[if_neg h2]
  simp only[h2,decide_false,zD,e4]
  rw[hz]
  by_cases hc:b.size<4
  ·rw[zT (by omega),if_pos hc];rfl
  ·rw[zF (by omega),zD,zT (by omega),zC,if_neg hc,<-hT]
   exact LS s (iQ s.1 b) 4 kq
theorem aci{h l:Nat}{pre r:List Int}{no:Int}(he:elems h l=pre++no::r):iu h l no=r.headD 0:=by
 have hs:=zhs h l
 rw[he] at hs
 have hp:=List.pairwise_append.1 hs
 have hq:=List.pairwise_cons.1 hp.2.1
 unfold iu
 rw[he,List.filter_append,List.filter_eq_nil_iff.2 (fun x hx=>by have:=hp.2.2 x hx no List.mem_cons_self;simp;omega),List.nil_append,List.filter_cons_of_neg (by simp),List.filter_eq_self.2 (fun x hx=>by have:=hq.1 x hx;simp;omega)]
theorem ada(h l:Nat):iu h l 0=(elems h l).headD 0:=by
 unfold iu
 rw[List.filter_eq_self.2 (fun x hx=>by have:=zi1 ((O3 h l x).1 hx);simp;omega)]
theorem zqa(h l:Nat):(elems h l).length<=128:=by
 unfold elems
 exact Nat.le_trans (List.length_filter_le _ _) (by rw[ajX];exact Nat.le_refl _)
theorem afD{ae:Int}{s:Spec}{b:ByteArray}{a:Nat}(hb:b.size<=1099511627776)(h:(qs ae s b a).2.2=0):(((qs ae s b a).2.1.toNat:Nat):Int)=(qs ae s b a).2.1:=by
 generalize hg:qs ae s b a=g at h⊢
 obtain⟨t,z,e⟩:=g
 dsimp only at h⊢
 subst h
 have:=(zul hb hg).2.2.1
 omega
def Ja(b:ByteArray)(e:Sum (ByteArray×Int×bJ×bY×bJ) (ByteArray×Int×bJ×bY×bJ)):Option (bJ×bY):=Sum.elim (fun we=>some (we.2.2.1,we.2.2.2.1)) (fun we=>bif(decide (we.2.1<(we.1.size:Int))) then some (we.2.2.2.2,((12:Int),(129:Int),())) else some (we.2.2.2.2,km)) e
theorem zol(s:zf)(hs:s.2.2.1.length<=maxLen)(b t:ByteArray)(hb:b.size<=1099511627776)(h l:Nat)(hh:h<c9)(hl:l<c9):∀(r pre:List Int) (k a:Nat) (o:List bh),elems h l=pre++r->o.length<=pre.length->r.length<k->
 (EQ k b (a:Int) (r.headD 0) s dn km (t,o,()) ((h:Int),(l:Int),())).bind (Ja b)=some ((t,(kA s b r a o).1,()),(kA s b r a o).2)
 |r,pre,0,a,o,_,_,hk=>by omega
 | [],pre,k+1,a,o,he,ho,hk=>by
   unfold EQ PV kA
   rw[show([]:List Int).headD 0=0 from rfl,zT (p:=(0:Int)=0) rfl,Bool.not_true,zD,zc]
   unfold Ja
   rw[Sum.elim_inr]
   dsimp only
   by_cases hc:a<b.size
   ·rw[zT (by omega),if_pos hc];rfl
   ·rw[zF (by omega),if_neg hc];rfl
 |no::r,pre,k+1,a,o,he,ho,hk=>by
  have cE:no∈elems h l:=by rw[he];exact List.mem_append_right _ List.mem_cons_self
  have nD:=zi1 ((O3 h l no).1 cE)
  have hlen:=zqa h l
  rw[he,List.length_append,List.length_cons] at hlen
  rw[List.length_cons] at hk
  unfold EQ PV kA
  rw[show(no::r).headD 0=no from rfl,zF (by omega:¬no=0),Bool.not_false,zC,z49 s _ hs,zc]
  dsimp only
  cases hf:bq s no with
  |false=>rfl
  |true=>
   rw[Bool.not_true,zD,if_neg (by decide),acJ _ _ _ _ hb,zc]
   by_cases hz:(qs s.1 (aY s no) b a).2.2=0
   case neg=>rw[zF hz,if_pos hz];rfl
   rw[zT hz,Bool.not_true,zD,if_neg (fun h=>h hz),zT (by simp only[List.length_singleton];omega),zC,M0 h l hh hl no (by omega) (by omega),zc,aci he,<-afD hb hz]
   exact zol s hs b t hb h l hh hl r (pre++ [no]) k _ _ (by rw[he,List.append_assoc];rfl) (by rw[List.length_append,List.length_append,List.length_singleton,List.length_singleton];omega) (by omega)
theorem ai8{ae:Int}{b:ByteArray}{a:Nat}(h:(cS ae b a).2.2.2=0):(cS ae b a).1<c9/\(cS ae b a).2.1<c9/\(((cS ae b a).2.2.1.toNat:Nat):Int)=(cS ae b a).2.2.1:=by
 generalize hg:cS ae b a=g at h⊢
 obtain⟨h',l,z,e⟩:=g
 dsimp only at h⊢
 subst h
 obtain⟨_,q1,q2,q3,_⟩:=aja hg
 exact⟨by show h'<18446744073709551616;omega,q2,by omega⟩
theorem adD(s:zf)(b:ByteArray)(hs:s.2.2.1.length<=maxLen)(hb:b.size<=1099511627776):qH s b=some (mT s b):=by
 unfold qH UM mT
 rw[O5 s hs,zc]
 by_cases h0:(gX s).1=0
 case neg=>rw[zF h0,if_pos h0];rfl
 rw[zT h0,Bool.not_true,zD,if_neg (fun h=>h h0),agZ s b hb,zc]
 cases ht:ot s b with
 |inl e=>
  have he:e≠0:=by
   unfold ot at ht
   split at ht
   ·cases ht;decide
   ·split at ht
    ·cases ht
    ·cases ht;decide
  exact Om he
 |inr q=>
  obtain⟨t,z⟩:=q
  refine(On (p:=(0:Int)=0) rfl).trans ?_
  dsimp only[Cw,I8,wT]
  rw[ai7 _ _ _ hb,zc]
  by_cases he:(cS s.1 b z).2.2.2=0
  case neg=>rw[if_pos he];exact Om he
  rw[if_neg (fun h=>h he)]
  refine(On he).trans ?_
  obtain⟨q1,q2,q3⟩:=ai8 he
  dsimp only[bmR]
  rw[M0 _ _ q1 q2 0 (by decide) (by decide),zc,ada,<-q3]
  exact zol s hs b t hb _ _ q1 q2 (elems (cS s.1 b z).1 (cS s.1 b z).2.1) [] ag _ [] rfl (Nat.le_refl _) (by have:=zqa (cS s.1 b z).1 (cS s.1 b z).2.1;rw[zq];omega)
end bn

set_option maxRecDepth 10000
namespace bn
open Go.IntKind renaming wrap->zW,i64->zI,u8->zU
open Go Go.Ref
theorem amo{s:zf}(h:iD s){no:Int}(hh:bq s no=true):2<=no/\no<=128:=by
 have:=Sz (Si h hh)
 rw[(Sv hh).2] at this
 exact this
theorem agW{s:zf}(hs:s.1=1\/s.1=2){m y:ByteArray}(hm:fJ m=true):iQ s.1 (iP s.1 m++y)=m/\(iP s.1 m).size=iz s.1:=by
 obtain⟨h4,hd⟩:=ru.1 hm
 have e0:∀(p:ByteArray) (k:Nat),p.size=k->(p++y).extract 0 k=p:=fun p k hk=>by
  have:=al9 (bs []) p y
  rw[D2,show(bs []).size=0 from rfl,Nat.zero_add,hk] at this
  exact this
 unfold iQ iP iz
 rcases hs with hs|hs
 ·have n2:¬s.1=2:=by omega
  rw[if_neg n2,if_pos hs,if_neg n2]
  exact⟨e0 m 4 h4,h4⟩
 ·have n1:¬s.1=1:=by omega
  have hz:(qu m).1.size=2:=by rw[zaf (by omega) hd,h4]
  rw[if_pos hs,if_neg n1,if_pos hs,e0 _ 2 hz]
  have:=ai3 (s:=m) (by omega) hd
  rw[h4] at this
  rw[show(4:Int)=((4:Nat):Int) from rfl,this]
  exact⟨rfl,hz⟩
abbrev aX:=zf×Map×List Int×List bh×Unit
abbrev AL:bh:=(0,bs [],())
def jX(s:zf)(prev:List Int)(no:Int):Int:=bif !bq s no then 9 else bif decide (no=39) then 1 else bif decide (no∈prev) then 10 else 0
def fS(s:zf):List Int->List Int->Int->Option (Int×Int)
 |_,[],_=>none
 |prev,no::r,i=>bif decide (jX s prev no=0) then fS s (prev++ [no]) r (i+1) else some (jX s prev no,i)
def hP(a:Spec)(prev:List Int)(c:bh):Int:=bif decide (c.1<0) then 1 else bif decide (16<c.1) then 1 else bif decide (c.1∈prev) then 10 else bH a c.2.1
def eR(a:Spec):List Int->List bh->Int->Option (Int×Int)
 |_,[],_=>none
 |prev,c::r,i=>bif decide (hP a prev c=0) then eR a (prev++ [c.1]) r (i+1) else some (hP a prev c,i)
def fF(s:aX):Int×Int×Int:=
 bif !decide ((gX s.1).1=0) then(1,1,0) else bif !bq s.1 39 then(9,1,1) else match fS s.1 [] s.2.2.1 0 with
  |some e=>(e.1,2,e.2)
  |none=>match eR (aY s.1 39) [] s.2.2.2.1 0 with
   |some e=>(e.1,3,e.2)
   |none=>bif decide ((0:Int)∈s.2.2.2.1.map fun c=>c.1) then(0,0,0) else(15,3,(s.2.2.2.1.length:Int))
structure cW(s:aX):Prop where
 iw:s.1.2.2.1.length<=maxLen
 n9:s.2.2.1.length<=1000000
 fQ:s.2.2.2.1.length<=1000000
 rV:∀c∈s.2.2.2.1,c.2.1.size<=1099511627776
theorem Mr(no:Int):∀(l:List Int) (i:Int),0<=i->∃r,bj (fun i (x:Int) (s:Unit) K=>bif decide (no=x) then some (Sum.inl i) else K s) (fun _=>some (Sum.inr ())) l i ()=some r/\(no∈l->∃j,r= .inl j/\0<=j)/\(no∉l->r= .inr ())
 | [],i,_=>⟨_,rfl,fun h=>(by cases h),fun _=>rfl⟩
 |x::l,i,h=>by
  rw[bj]
  by_cases e:no=x
  ·rw[zT e,zC]
   exact⟨_,rfl,fun _=>⟨i,rfl,h⟩,fun hn=>absurd (by rw[e];exact List.mem_cons_self) hn⟩
  ·rw[zF e,zD]
   obtain⟨r,h1,h2,h3⟩:=Mr no l (i+1) (by omega)
   exact⟨r,h1,fun hm=>h2 ((List.mem_cons.1 hm).resolve_left e),fun hn=>h3 fun hm=>hn (List.mem_cons_of_mem _ hm)⟩
theorem abl(l:List Int)(no:Int)(h:l.length<=maxLen):sY l no=some (decide (no∈l)):=by
 unfold sY UA vK UG
 have:=cu (0:Int) l h (fun i (x:Int) (s:Unit) K=>bif decide (no=x) then some (Sum.inl i) else K s) (fun _=>some (Sum.inr ()))
  (fun k i s=>PU k l no (l.length:Int) i) (fun k i s=>rfl) ()
 dsimp only
 obtain⟨r,h1,h2,h3⟩:=Mr no l 0 (Int.le_refl _)
 rw[this,h1,zc]
 by_cases hm:no∈l
 ·obtain⟨j,rfl,hj⟩:=h2 hm
  rw[zT hm]
  show some (decide (0<=j))=_
  rw[zT hj]
 ·rw[h3 hm,zF hm];rfl
theorem Ms(c:bh):∀(l:List bh) (i:Int),0<=i->∃r,bj (fun i (x:bh) (s:bh) K=>((qF x s).bind fun r1=>(bif r1.1 then some (Sum.inl (i,r1.2)) else K r1.2))) (fun s=>some (Sum.inr s)) l i c=some r/\(c.1∈l.map (fun v=>v.1)->∃j,r= .inl (j,c)/\0<=j)/\(c.1∉l.map (fun v=>v.1)->r= .inr c)
 | [],i,_=>⟨_,rfl,fun h=>(by cases h),fun _=>rfl⟩
 |x::l,i,h=>by
  rw[bj]
  unfold qF Ui
  rw[zc]
  dsimp only
  rw[List.map_cons]
  by_cases e:x.1=c.1
  ·rw[zT e,zC]
   exact⟨_,rfl,fun _=>⟨i,rfl,h⟩,fun hn=>absurd (by rw[e];exact List.mem_cons_self) hn⟩
  ·rw[zF e,zD]
   obtain⟨r,h1,h2,h3⟩:=Ms c l (i+1) (by omega)
   exact⟨r,h1,fun hm=>h2 ((List.mem_cons.1 hm).resolve_left fun e2=>e e2.symm),fun hn=>h3 fun hm=>hn (List.mem_cons_of_mem _ hm)⟩
theorem abm(l:List bh)(c:bh)(h:l.length<=maxLen):sX l c=some (decide (c.1∈l.map fun v=>v.1),c):=by
 unfold sX Uz vJ UC
 have:=cu AL l h (fun i (x:bh) (s:bh) K=>((qF x s).bind fun r1=>(bif r1.1 then some (Sum.inl (i,r1.2)) else K r1.2))) (fun s=>some (Sum.inr s))
  (fun k i s=>PS k l (l.length:Int) i s) (fun k i s=>rfl) c
 dsimp only
 obtain⟨r,h1,h2,h3⟩:=Ms c l 0 (Int.le_refl _)
 rw[this,h1,zc]
 by_cases hm:c.1∈l.map fun v=>v.1
 ·obtain⟨j,rfl,hj⟩:=h2 hm
  rw[zT hm]
  show some (decide (0<=j),c)=_
  rw[zT hj]
 ·rw[h3 hm,zF hm];rfl
theorem Gn{α:Type}{l:List α}{j:Nat}(h:j<l.length)(d:α):l.getD j d=l[j]:=by rw[List.getD_eq_getElem?_getD,List.getElem?_eq_getElem h];rfl
theorem al6(s:aX)(h:cW s){j:Nat}(hj:j<s.2.2.1.length):sU s (j:Int)=some (jX s.1 (s.2.2.1.take j) s.2.2.1[j]):=by
 have he:=h.n9
 unfold sU Uj jX
 rw[zi hj,Int.toNat_natCast,Gn hj,z49 s.1 _ h.iw,zc]
 cases bq s.1 s.2.2.1[j] with
 |false=>rfl
 |true=>
  dsimp only
  rw[Bool.not_true,zD,zD]
  cases decide (s.2.2.1[j]=39) with
  |true=>rfl
  |false=>
   rw[zD,zD,zT (by omega),zC,zT (by omega),zC,List.drop_zero,abl _ _ (by rw[List.length_take,zh];omega),zc]
   cases decide (s.2.2.1[j]∈s.2.2.1.take j)<;>rfl
theorem al3(s:aX)(h:cW s)(a:Spec){j:Nat}(hj:j<s.2.2.2.1.length):sT s (j:Int) a=some (hP a ((s.2.2.2.1.take j).map fun c=>c.1) s.2.2.2.1[j]):=by
 have he:=h.fQ
 have ht:=h.rV _ (List.getElem_mem hj)
 unfold sT Uh hP
 rw[zi hj,Int.toNat_natCast,Gn hj]
 cases decide (s.2.2.2.1[j].1<0) with
 |true=>rfl
 |false=>
  rw[zD,zD]
  cases decide (16<s.2.2.2.1[j].1) with
  |true=>rfl
  |false=>
   rw[zD,zD,zT (by omega),zC,zT (by omega),zC,List.drop_zero,abm _ _ (by rw[List.length_take,zh];omega),zc]
   dsimp only
   cases decide (s.2.2.2.1[j].1∈(s.2.2.2.1.take j).map fun c=>c.1) with
   |true=>rfl
   |false=>rw[zD,zD,xO _ _ ht];rfl
theorem K3(s:aX)(h:cW s)(sp:Spec):∀(n j k:Nat),j+n=s.2.2.1.length->n<k->EN k (s.2.2.1.length:Int) (j:Int) s sp=some (match fS s.1 (s.2.2.1.take j) (s.2.2.1.drop j) j with
 |some e=> .inl (e.1,2,e.2,s,sp)
 |none=> .inr (s,sp))
 |n,j,0,_,hk=>by omega
 |0,j,k+1,hj,hk=>by
  unfold EN PL
  rw[zF (by omega),zD,List.drop_eq_nil_of_le (by omega)];rfl
 |n+1,j,k+1,hj,hk=>by
  have aq:j<s.2.2.1.length:=by omega
  have he:=h.n9
  unfold EN PL
  rw[zT (by omega),zC,al6 s h aq,zc,List.drop_eq_getElem_cons aq,fS]
  cases decide (jX s.1 (s.2.2.1.take j) s.2.2.1[j]=0) with
  |false=>rfl
  |true=>
   rw[Bool.not_true,zD,zC]
   dsimp only
   rw[zr (by omega),List.take_append_getElem aq]
   exact K3 s h sp n (j+1) k (by omega) (by omega)
def lD(t:Bool):List bh->Bool
 | []=>t
 |c::r=>lD (t||decide (c.1=0)) r
theorem MX(t:Bool):∀l:List bh,lD t l=(t||decide ((0:Int)∈l.map fun c=>c.1))
 | []=>by simp [lD]
 |c::r=>by
  rw[lD,MX _ r,List.map_cons,Bool.or_assoc]
  congr 1
  rw[<-Bool.decide_or]
  exact decide_eq_decide.2 ⟨fun h=>h.elim (fun e=>by rw[<-e];exact List.mem_cons_self) (List.mem_cons_of_mem _),fun h=>(List.mem_cons.1 h).imp (fun e=>e.symm) id⟩
theorem zhl(s:aX)(h:cW s)(a:Spec):∀(n j k:Nat) (t:Bool),j+n=s.2.2.2.1.length->n<k->∃t',EO k t s.2.2.2.1 (s.2.2.2.1.length:Int) (j:Int) s a=some (match eR a ((s.2.2.2.1.take j).map fun c=>c.1) (s.2.2.2.1.drop j) j with
 |some e=> .inl (e.1,3,e.2,t',s)
 |none=> .inr (lD t (s.2.2.2.1.drop j),s))
 |n,j,0,t,_,hk=>by omega
 |0,j,k+1,t,hj,hk=>by
  unfold EO PM
  rw[zF (by omega),zD,List.drop_eq_nil_of_le (by omega)]
  exact⟨t,rfl⟩
 |n+1,j,k+1,t,hj,hk=>by
  have aq:j<s.2.2.2.1.length:=by omega
  have he:=h.fQ
  unfold EO PM
  rw[zT (by omega),zC,zi aq,al3 s h a aq,zc,List.drop_eq_getElem_cons aq,eR,lD]
  cases decide (hP a ((s.2.2.2.1.take j).map fun c=>c.1) s.2.2.2.1[j]=0) with
  |false=>exact⟨t,rfl⟩
  |true=>
   rw[Bool.not_true,zD,zC]
   dsimp only
   rw[zr (by omega),Int.toNat_natCast,Gn aq]
   have e:(s.2.2.2.1.take j).map (fun c=>c.1)++ [s.2.2.2.1[j].1]=(s.2.2.2.1.take (j+1)).map fun c=>c.1:=by rw[<-List.take_append_getElem aq,List.map_append];rfl
   rw[e]
   cases t with
   |true=>
    rw[zC,Bool.true_or]
    exact zhl s h a n (j+1) k true (by omega) (by omega)
   |false=>
    rw[zD,Bool.false_or]
    exact zhl s h a n (j+1) k _ (by omega) (by omega)
theorem zog(s:aX)(h:cW s):sR s=some (fF s):=by
 have he:=h.n9
 have hc:=h.fQ
 unfold sR Ua fF
 rw[O5 s.1 h.iw,zc]
 cases decide ((gX s.1).1=0) with
 |false=>rfl
 |true=>
  rw[Bool.not_true,zD,zD,z49 s.1 39 h.iw,zc]
  cases bq s.1 39 with
  |false=>rfl
  |true=>
   dsimp only
   rw[Bool.not_true,zD,zD]
   have e1:=K3 s h (aY s.1 39) s.2.2.1.length 0 ag (by omega) (by rw[zq];omega)
   rw[List.take_zero,List.drop_zero,show((0:Nat):Int)=0 from rfl] at e1
   rw[e1,zc]
   cases fS s.1 [] s.2.2.1 0 with
   |some e=>rfl
   |none=>
    dsimp only
    rw[Sum.elim_inr]
    unfold Ub
    dsimp only
    obtain⟨t',e2⟩:=zhl s h (aY s.1 39) s.2.2.2.1.length 0 ag false (by omega) (by rw[zq];omega)
    rw[List.take_zero,List.drop_zero,show((0:Nat):Int)=0 from rfl,List.map_nil] at e2
    rw[e2,zc]
    cases eR (aY s.1 39) [] s.2.2.2.1 0 with
    |some e=>rfl
    |none=>
     dsimp only
     rw[Sum.elim_inr]
     unfold Uc
     rw[MX,Bool.false_or]
     dsimp only
     cases decide ((0:Int)∈s.2.2.2.1.map fun c=>c.1)<;>rfl
theorem zny(l:List bh)(hl:l.length<=9223372036854775807)(m:Nat)(hm:m<=l.length)(e:Int):∀(n j k:Nat),j+n=m->n<k->∃r,EF k l (m:Int) e (j:Int)=some r/\(e∈((l.take m).drop j).map (fun v=>v.1)->∃i,r= .inl i/\0<=i)/\(e∉((l.take m).drop j).map (fun v=>v.1)->r= .inr ())
 |n,j,0,_,hk=>by omega
 |0,j,k+1,hj,hk=>by
  unfold EF Pw
  rw[zF (by omega),zD,List.drop_eq_nil_of_le (by rw[List.length_take];omega)]
  exact⟨_,rfl,fun h=>(by cases h),fun _=>rfl⟩
 |n+1,j,k+1,hj,hk=>by
  have aq:j<l.length:=by omega
  have fW:j<(l.take m).length:=by rw[List.length_take];omega
  unfold EF Pw
  rw[zT (by omega),zC,zi aq,Int.toNat_natCast,Gn aq,List.drop_eq_getElem_cons fW,List.map_cons,List.getElem_take]
  by_cases he:l[j].1=e
  ·rw[zT he,zC]
   exact⟨_,rfl,fun _=>⟨(j:Int),rfl,by omega⟩,fun hn=>absurd (by rw[he];exact List.mem_cons_self) hn⟩
  ·rw[zF he,zD]
   dsimp only
   rw[zr (by omega)]
   obtain⟨r,h1,h2,h3⟩:=zny l hl m hm e n (j+1) k (by omega) (by omega)
   exact⟨r,h1,fun hm=>h2 ((List.mem_cons.1 hm).resolve_left fun e2=>he e2.symm),fun hn=>h3 fun hm=>hn (List.mem_cons_of_mem _ hm)⟩
theorem Lb(l:List bh)(hl:l.length<=maxLen)(m:Nat)(hm:m<=l.length)(e:Int):∃r,qA l (m:Int) e=some r/\decide (0<=r)=decide (e∈(l.take m).map fun v=>v.1):=by
 unfold qA Ti
 rw[zh] at hl
 obtain⟨r,h1,h2,h3⟩:=zny l (by omega) m hm e m 0 ag (by omega) (by rw[zq];omega)
 rw[show((0:Nat):Int)=0 from rfl] at h1
 dsimp only
 rw[h1,zc]
 rw[List.drop_zero] at h2 h3
 by_cases dh:e∈(l.take m).map fun v=>v.1
 ·obtain⟨i,rfl,hi⟩:=h2 dh
  exact⟨i,rfl,by rw[zT hi,zT dh]⟩
 ·rw[h3 dh]
  exact⟨-1,rfl,by rw[zF dh];rfl⟩
theorem znv(s:aX)(h:cW s)(t5:Int):∀(n j k:Nat),j+n=s.2.2.1.length->n<k->ED k t5 (j:Int) s=some (match fS s.1 (s.2.2.1.take j) (s.2.2.1.drop j) j with
 |some e=> .inl (e.1,2,e.2,t5,s)
 |none=> .inr (t5,s))
 |n,j,0,_,hk=>by omega
 |0,j,k+1,hj,hk=>by
  unfold ED Pt
  rw[zF (by omega),zD,List.drop_eq_nil_of_le (by omega)];rfl
 |n+1,j,k+1,hj,hk=>by
  have aq:j<s.2.2.1.length:=by omega
  have he:=h.n9
  have ih:=znv s h t5 n (j+1) k (by omega) (by omega)
  have hw:∀{R:Type} (z:Option R),zd (j:Int) s.2.2.1.length z=z:=fun z=>zi aq
  unfold ED Pt
  simp only[hw]
  rw[zT (by omega),zC,Int.toNat_natCast,Gn aq,R4 s.1 _ h.iw,zc,List.drop_eq_getElem_cons aq,fS]
  unfold jX
  rcases Sc s.1 s.2.2.1[j] with⟨h1,h2,_⟩|⟨h1,_,h2,_⟩
  ·rw[h1,h2];rfl
  ·rw[h2,zF (by omega),zD,Bool.not_true,zD]
   cases decide (s.2.2.1[j]=39) with
   |true=>rfl
   |false=>
    rw[zD,zD,zT (by omega),zC,zT (by omega),zC,List.drop_zero,akq _ _ (by rw[List.length_take,zh];omega),zc]
    cases decide (s.2.2.1[j]∈s.2.2.1.take j) with
    |true=>rfl
    |false=>
     rw[zD,zD,zT rfl,zC]
     rw[zr (by omega),List.take_append_getElem aq]
     exact ih
theorem znu(s:aX)(h:cW s)(t5:Int)(h5:0<=t5/\t5<s.1.2.2.1.length)(hs5:List.getD s.1.2.2.1 t5.toNat cZ=aY s.1 39):∀(n j k:Nat),j+n=s.2.2.2.1.length->n<k->EE k t5 (j:Int) s=some (match eR (aY s.1 39) ((s.2.2.2.1.take j).map fun c=>c.1) (s.2.2.2.1.drop j) j with
 |some e=> .inl (e.1,3,e.2,s)
 |none=> .inr s)
 |n,j,0,_,hk=>by omega
 |0,j,k+1,hj,hk=>by
  unfold EE Pu
  rw[zF (by omega),zD,List.drop_eq_nil_of_le (by omega)];rfl
 |n+1,j,k+1,hj,hk=>by
  have aq:j<s.2.2.2.1.length:=by omega
  have he:=h.fQ
  have ih:=znu s h t5 h5 hs5 n (j+1) k (by omega) (by omega)
  have hw:∀{R:Type} (z:Option R),zd (j:Int) s.2.2.2.1.length z=z:=fun z=>zi aq
  have hw5:∀{R:Type} (z:Option R),zd t5 s.1.2.2.1.length z=z:=fun z=>zm h5.1 h5.2
  have ht:=h.rV _ (List.getElem_mem aq)
  obtain⟨r,f1,f2⟩:=Lb s.2.2.2.1 (by rw[zh];omega) j (by omega) s.2.2.2.1[j].1
  unfold EE Pu
  simp only[hw,hw5]
  rw[zT (by omega),zC,Int.toNat_natCast,Gn aq,f1,zc,f2,hs5,FR _ _ ht,zc,List.drop_eq_getElem_cons aq,eR]
  unfold hP
  cases decide (s.2.2.2.1[j].1<0) with
  |true=>rfl
  |false=>
   rw[zD,zD]
   cases decide (16<s.2.2.2.1[j].1) with
   |true=>rfl
   |false=>
    rw[zD,zD]
    cases decide (s.2.2.2.1[j].1∈(s.2.2.2.1.take j).map fun c=>c.1) with
    |true=>rfl
    |false=>
     rw[zD,zD]
     cases decide (bH (aY s.1 39) s.2.2.2.1[j].2.1=0) with
     |false=>rfl
     |true=>
      rw[Bool.not_true,zD,zC]
      have e:(s.2.2.2.1.take j).map (fun c=>c.1)++ [s.2.2.2.1[j].1]=(s.2.2.2.1.take (j+1)).map fun c=>c.1:=by rw[<-List.take_append_getElem aq,List.map_append];rfl
      rw[zr (by omega),e]
      exact ih
theorem zqx(s:aX)(h:cW s):sC s=some (fF s):=by
 have he:=h.n9
 have hc:=h.fQ
 unfold sC Ta fF
 rw[zd3 s.1 h.iw,zc]
 cases decide ((gX s.1).1=0) with
 |false=>rfl
 |true=>
  rw[Bool.not_true,zD,zD,R4 s.1 39 h.iw,zc]
  rcases Sc s.1 39 with⟨h1,h2,_⟩|⟨h1,Yt,h2,h3⟩
  ·rw[h1,h2];rfl
  ·rw[h2,zF (by omega),zD,Bool.not_true,zD]
   dsimp only
   have e1:=znv s h (eY s.1.2.2.1 39 0) s.2.2.1.length 0 ag (by omega) (by rw[zq];omega)
   rw[List.take_zero,List.drop_zero,show((0:Nat):Int)=0 from rfl] at e1
   rw[e1,zc]
   cases fS s.1 [] s.2.2.1 0 with
   |some e=>rfl
   |none=>
    dsimp only
    rw[Sum.elim_inr]
    unfold Tb
    dsimp only
    have e2:=znu s h (eY s.1.2.2.1 39 0) ⟨h1,Yt⟩ h3 s.2.2.2.1.length 0 ag (by omega) (by rw[zq];omega)
    rw[List.take_zero,List.drop_zero,show((0:Nat):Int)=0 from rfl,List.map_nil] at e2
    rw[e2,zc]
    cases eR (aY s.1 39) [] s.2.2.2.1 0 with
    |some e=>rfl
    |none=>
     dsimp only
     rw[Sum.elim_inr]
     unfold Tc
     obtain⟨r,f1,f2⟩:=Lb s.2.2.2.1 (by rw[zh];omega) s.2.2.2.1.length (Nat.le_refl _) 0
     rw[List.take_length] at f2
     rw[f1,zc]
     by_cases hr:0<=r
     ·rw[zT hr] at f2
      rw[zF (by omega),<-f2];rfl
     ·rw[zF hr] at f2
      rw[zT (by omega),<-f2];rfl
abbrev EX:=List aX×Int×Unit
abbrev amv:zf:=((0:Int),(0:Int),([]:List Spec),())
abbrev qk:aX:=(amv,J4,([]:List Int),([]:List bh),())
abbrev Ko:Ty:= .pair (.int .i64) (.pair .str .unit)
abbrev uA:Ty:= .pair amy (.pair Kp (.pair (.sl 0 (.int .i64)) (.pair (.sl 0 Ko) .unit)))
abbrev C3:Ty:= .pair (.arr 2 uA) (.pair (.int .i64) .unit)
theorem agV{c:EX}(h:c.1.length=2):∃p q,c=([p,q],c.2.1,()):=by
 obtain⟨l,n,u⟩:=c
 match l,h with
 | [p,q],_=>exact⟨p,q,rfl⟩
theorem GI:∃k,ag=k+1+1+1:=⟨ag-3,by rw[zq]⟩
def GJ(s:aX):Bool:=decide ((200:Int)<(s.1.2.2.1.length:Int))||(decide ((300:Int)<(s.2.2.1.length:Int))||(decide ((300:Int)<(s.2.2.2.1.length:Int))||s.2.2.2.1.any fun c=>decide ((1200:Int)<(c.2.1.size:Int))))
theorem Ov:∀(l:List bh) (i:Int),bj (fun i (x:bh) (s:Unit) K=>(bif(decide ((1200:Int)<((x.2.1).size:Int))) then some (Sum.inl true) else K s)) (fun _=>some (Sum.inr ())) l i ()=some (bif l.any (fun c=>decide ((1200:Int)<(c.2.1.size:Int))) then Sum.inl true else Sum.inr ())
 | [],i=>rfl
 |x::r,i=>by
  rw[bj,List.any_cons]
  cases decide ((1200:Int)<(x.2.1.size:Int)) with
  |true=>rfl
  |false=>exact Ov r (i+1)
theorem zqy(s:aX)(h:s.2.2.2.1.length<=maxLen):mB s=some (GJ s):=by
 unfold mB Tf GJ
 cases decide ((200:Int)<(s.1.2.2.1.length:Int)) with
 |true=>rfl
 |false=>
  rw[zD,Bool.false_or]
  cases decide ((300:Int)<(s.2.2.1.length:Int)) with
  |true=>rfl
  |false=>
   rw[zD,Bool.false_or]
   cases decide ((300:Int)<(s.2.2.2.1.length:Int)) with
   |true=>rfl
   |false=>
    rw[zD,Bool.false_or]
    have:=cu AL s.2.2.2.1 h (fun i (x:bh) (s:Unit) K=>(bif(decide ((1200:Int)<((x.2.1).size:Int))) then some (Sum.inl true) else K s)) (fun _=>some (Sum.inr ()))
     (fun k i u=>Pv k i s) (fun k i u=>rfl) ()
    dsimp only
    rw[this,Ov]
    cases s.2.2.2.1.any (fun c=>decide ((1200:Int)<(c.2.1.size:Int)))<;>rfl
theorem Lg{s:aX}(h:GJ s=false):cW s/\s.1.2.2.1.length<=200/\s.2.2.1.length<=300/\s.2.2.2.1.length<=300/\∀c∈s.2.2.2.1,c.2.1.size<=1200:=by
 unfold GJ at h
 simp only[Bool.or_eq_false_iff,decide_eq_false_iff_not] at h
 obtain⟨h1,h2,h3,h4⟩:=h
 have ht:∀c∈s.2.2.2.1,c.2.1.size<=1200:=fun c hc=>by
  by_cases e:(1200:Int)<(c.2.1.size:Int)
  ·rw[List.any_eq_true.2 ⟨c,hc,zT e⟩] at h4;cases h4
  ·omega
 exact⟨⟨by rw[zh];omega,by omega,by omega,fun c hc=>by have:=ht c hc;omega⟩,by omega,by omega,by omega,ht⟩
structure cO(p q:aX):Prop where
 sp:cW p
 sq:cW q
 pm:dG p.2.1
 qm:dG q.2.1
 Cn:p.1.2.2.1.length<=200
 Cq:q.1.2.2.1.length<=200
 pe:p.2.2.1.length<=300
 qe:q.2.2.1.length<=300
 pml:p.2.1.2.1.length<=300
 qml:q.2.1.2.1.length<=300
 aaU:∀c∈p.2.2.2.1,c.2.1.size<=1200
 aaV:∀c∈q.2.2.2.1,c.2.1.size<=1200
theorem zo3{m:Map}(h:Bc m=false):m.2.1.length<=300:=by
 unfold Bc at h
 simp only[Bool.or_eq_false_iff,decide_eq_false_iff_not] at h
 omega
theorem ac2{p q:aX}{n:Int}(h:Wf C3 ([p,q],n,())):∃g,nQ ([p,q],n,())=some g/\(g=false->cO p q):=by
 have hp:Wf uA p:=h.1.2 p (by simp)
 have hq:Wf uA q:=h.1.2 q (by simp)
 have w0:∀{R:Type} (x:Option R),zd 0 2 x=x:=fun x=>zm (by omega) (by omega)
 have w1:∀{R:Type} (x:Option R),zd 1 2 x=x:=fun x=>zm (by omega) (by omega)
 unfold nQ Tn
 simp only[w0,w1]
 show∃g,((mB p).bind fun r1=>(bif r1 then some true else((mB q).bind fun r2=>(bif r2 then some true else((lE p.2.1).bind fun r3=>(bif r3 then some true else((lE q.2.1).bind fun r4=>some r4)))))))=some g/\_
 rw[zqy p hp.2.2.2.1.1,zc]
 cases h1:GJ p with
 |true=>exact⟨true,rfl,fun h=>by cases h⟩
 |false=>
  rw[zD,zqy q hq.2.2.2.1.1,zc]
  cases h2:GJ q with
  |true=>exact⟨true,rfl,fun h=>by cases h⟩
  |false=>
   rw[zD,MV hp.2.1,zc]
   cases h3:Bc p.2.1 with
   |true=>exact⟨true,rfl,fun h=>by cases h⟩
   |false=>
    rw[zD,MV hq.2.1,zc]
    refine⟨_,rfl,fun h4=> ?_⟩
    obtain⟨a1,a2,a3,a4,a5⟩:=Lg h1
    obtain⟨b1,b2,b3,b4,b5⟩:=Lg h2
    exact⟨a1,b1,Lf h3,Lf h4,a2,b2,a3,b3,zo3 h3,zo3 h4,a5,b5⟩
def gu(p q:aX)(n:Int):Int×Int×Int:=
 bif decide (n<1) then(5,2,0) else bif decide (65535<n) then(5,2,0)
 else bif !decide ((fF p).1=0) then((fF p).1,0,1) else bif !decide ((du p.2.1 p.1 q.1).1=0) then((du p.2.1 p.1 q.1).1,0,2)
 else bif !decide ((fF q).1=0) then((fF q).1,1,1) else bif !decide ((du q.2.1 q.1 p.1).1=0) then((du q.2.1 q.1 p.1).1,1,2) else(0,0,0)
theorem uK{R:Type}(x:Option R):zd 0 2 x=x:=zm (by omega) (by omega)
theorem uL{R:Type}(x:Option R):zd 1 2 x=x:=zm (by omega) (by omega)
theorem xK:zW zI ((1:Int)-(0:Int))=1:=by decide
theorem xL:zW zI ((1:Int)-(1:Int))=0:=by decide
theorem AM:zW zI ((0:Int)+(1:Int))=1:=by decide
theorem AN:zW zI ((1:Int)+(1:Int))=2:=by decide
theorem gp(p q:aX):List.getD [p,q] (0:Int).toNat qk=p:=rfl
theorem gq(p q:aX):List.getD [p,q] (1:Int).toNat qk=q:=rfl
theorem zdv(p q:aX)(n:Int)(h:cO p q):qG ([p,q],n,())=some (gu p q n):=by
 obtain⟨k,hk⟩:=GI
 unfold qG Ul gu
 dsimp only
 cases decide (n<1) with
 |true=>rfl
 |false=>
  cases decide (65535<n) with
  |true=>rfl
  |false=>
   rw[zD,zD,zD,zD,hk]
   unfold EP Gd
   simp only[uK,uL,xK,xL,AM,AN,gp,gq]
   rw[zT (by decide:(0:Int)<2),zC,zog p h.sp,zc]
   cases decide ((fF p).1=0) with
   |false=>rfl
   |true=>
    rw[Bool.not_true,zD,zD,z7o p.2.1 p.1 q.1 h.pm h.sp.iw h.sq.iw,zc]
    cases decide ((du p.2.1 p.1 q.1).1=0) with
    |false=>rfl
    |true=>
     rw[Bool.not_true,zD,zD]
     unfold EP Gd
     simp only[uK,uL,xK,xL,AM,AN,gp,gq]
     rw[zT (by decide:(1:Int)<2),zC,zog q h.sq,zc]
     cases decide ((fF q).1=0) with
     |false=>rfl
     |true=>
      rw[Bool.not_true,zD,zD,z7o q.2.1 q.1 p.1 h.qm h.sq.iw h.sp.iw,zc]
      cases decide ((du q.2.1 q.1 p.1).1=0) with
      |false=>rfl
      |true=>
       rw[Bool.not_true,zD,zD]
       unfold EP Gd
       rw[zF (by decide:¬(2:Int)<2),zD]
       rfl
theorem acu(p q:aX)(n:Int)(h:cO p q):sE ([p,q],n,())=some (gu p q n):=by
 obtain⟨k,hk⟩:=GI
 unfold sE Tk gu
 dsimp only
 cases decide (n<1) with
 |true=>rfl
 |false=>
  cases decide (65535<n) with
  |true=>rfl
  |false=>
   rw[zD,zD,zD,zD,hk]
   unfold EG z87
   simp only[uK,uL,xK,xL,AM,AN,gp,gq]
   rw[zT (by decide:(0:Int)<2),zC,zqx p h.sp,zc]
   cases decide ((fF p).1=0) with
   |false=>rfl
   |true=>
    rw[Bool.not_true,zD,zD,zqw p.2.1 p.1 q.1 h.pm h.sp.iw h.sq.iw,zc]
    cases decide ((du p.2.1 p.1 q.1).1=0) with
    |false=>rfl
    |true=>
     rw[Bool.not_true,zD,zD]
     unfold EG z87
     simp only[uK,uL,xK,xL,AM,AN,gp,gq]
     rw[zT (by decide:(1:Int)<2),zC,zqx q h.sq,zc]
     cases decide ((fF q).1=0) with
     |false=>rfl
     |true=>
      rw[Bool.not_true,zD,zD,zqw q.2.1 q.1 p.1 h.qm h.sq.iw h.sp.iw,zc]
      cases decide ((du q.2.1 q.1 p.1).1=0) with
      |false=>rfl
      |true=>
       rw[Bool.not_true,zD,zD]
       unfold EG z87
       rw[zF (by decide:¬(2:Int)<2),zD]
       rfl
theorem KC(s:aX)(h:cW s)(h2:s.1.2.2.1.length<=200):sD s=some s:=by
 have he:=h.n9
 have hc:=h.fQ
 unfold sD Td
 rw[adA s.1 (by omega),zc,zT (by simp;omega),zC,zT (by simp;omega),zC]
 rfl
theorem qi(p q r:aX):List.set [p,q] (0:Int).toNat r=[r,q]:=rfl
theorem qj(p q r:aX):List.set [p,q] (1:Int).toNat r=[p,r]:=rfl
theorem Ft(p q:aX):List.getD [p,q] (0:Int).toNat ((((0:Int),(0:Int),([]:List Spec),()),(([]:List bA),([]:List aU),()),([]:List Int),([]:List bh),()):aX)=p:=rfl
theorem Fu(p q:aX):List.getD [p,q] (1:Int).toNat ((((0:Int),(0:Int),([]:List Spec),()),(([]:List bA),([]:List aU),()),([]:List Int),([]:List bh),()):aX)=q:=rfl
theorem adC(p q:aX)(n:Int)(h:cO p q):sF ([p,q],n,())=some ([p,q],n,()):=by
 obtain⟨k,hk⟩:=GI
 unfold sF Tm
 dsimp only
 rw[hk]
 unfold EH Gb
 simp only[uK,uL,xK,xL,AM,AN,gp,gq,Ft,Fu,qi,qj]
 rw[zT (by decide:(0:Int)<2),zC,KB _ h.pm,zc,KC p h.sp h.Cn,zc]
 unfold EH Gb
 simp only[uK,uL,xK,xL,AM,AN,gp,gq,Ft,Fu,qi,qj]
 rw[zT (by decide:(1:Int)<2),zC,KB _ h.qm,zc,KC q h.sq h.Cq,zc]
 unfold EH Gb
 rw[zF (by decide:¬(2:Int)<2),zD]
 rfl
theorem w0{R:Type}(x:Option R):zd 0 2 x=x:=zm (by omega) (by omega)
theorem w1{R:Type}(x:Option R):zd 1 2 x=x:=zm (by omega) (by omega)
theorem ga(a b:zf):List.getD ([a,b]:List zf) (0:Int).toNat ((0:Int),(0:Int),([]:List Spec),())=a:=rfl
def di(m:ByteArray):ByteArray:=strOf [ze m 0,ze m 1,ze m 2+1,ze m 3]
theorem amd{m:ByteArray}(h:m.size=4):bl m=[ze m 0,ze m 1,ze m 2,ze m 3]:=by
 have hl:(bl m).length=4:=by rw[zg];exact h
 have e:=fun i=>mo m i
 match hb:bl m,hl with
 | [a,b,c,d],_=>rw[e 0,e 1,e 2,e 3,hb];rfl
theorem Sj{m:ByteArray}(h:eB m=true):fJ m=true/\(ze m 2=48\/ze m 2=50):=by
 unfold eB at h
 rw[Bool.and_eq_true,Bool.or_eq_true,decide_eq_true_eq,decide_eq_true_eq] at h
 exact h
theorem NU{m:ByteArray}(h:eB m=true):bl (di m)=[ze m 0,ze m 1,ze m 2+1,ze m 3]/\bD [ze m 0,ze m 1,ze m 2+1,ze m 3]=true:=by
 obtain⟨hr,h2⟩:=Sj h
 have d0:=x7 hr 0 (by decide)
 have d1:=x7 hr 1 (by decide)
 have d3:=x7 hr 3 (by decide)
 have hd:bD [ze m 0,ze m 1,ze m 2+1,ze m 3]=true:=rB.2 ⟨vl.2 d0,rB.2 ⟨vl.2 d1,rB.2 ⟨vl.2 (by omega),rB.2 ⟨vl.2 d3,rfl⟩⟩⟩⟩
 exact⟨uT (KW hd),hd⟩
theorem amu{m:ByteArray}(h:eB m=true):fJ (di m)=true/\gj (di m)=gj m/\eB (di m)=false:=by
 obtain⟨hr,h2⟩:=Sj h
 obtain⟨hb,hd⟩:=NU h
 have hs:(di m).size=4:=by rw[<-zg,hb];rfl
 have eW:fJ (di m)=true:=ru.2 ⟨hs,by rw[hb];exact hd⟩
 have e0:ze (di m) 0=ze m 0:=by rw[mo (di m),hb];rfl
 have e2:ze (di m) 2=ze m 2+1:=by rw[mo (di m),hb];rfl
 refine⟨eW,?_,?_⟩
 ·unfold gj
  rw[hr,eW,e0]
 ·unfold eB
  rw[eW,e2,zF (by omega),zF (by omega)];rfl
theorem abV(m:ByteArray)(h:m.size<=maxLen):sO m=some (if eB m=true then(di m,true) else(bs [],false)):=by
 unfold sO TW
 rw[zd2 m h,zc]
 cases hr:eB m with
 |false=>rfl
 |true=>
  obtain⟨eL,h2⟩:=Sj hr
  have h4:=(ru.1 eL).1
  have hb:=amd h4
  have z1:(m.extract 0 2).size=2:=by rw[ByteArray.size_extract];omega
  have z3:(m.extract 3 m.size).size=1:=by rw[ByteArray.size_extract];omega
  have zs:∀x:Int,(strOf [x]).size=1:=fun x=>by rw[vk];rfl
  have hw:zW zU (ze m 2+1)=ze m 2+1:=by
   rcases h2 with e|e<;>rw[e]<;>decide
  rw[Bool.not_true,zD,show((2:Int)).toNat=2 from rfl,show((3:Int)).toNat=3 from rfl,zT (by omega),zC,show(2:Int)=((2:Nat):Int) from rfl,zi (by omega),hw,zT (by rw[z1,zs];decide),zC,zT (by omega),zC,zT (by rw[AY,z1,zs,z3];decide),zC,if_pos rfl]
  congr 2
  apply Fa
  rw[rX,rX,uO,uO,h4,hb,(NU hr).1]
  have hx:zo (ze m 2+1):=by unfold zo;omega
  rw[uT (xs:=[ze m 2+1]) (by simpa using hx)]
  rfl
def eM(l:List bh)(no:Int):Option bh:=l.find? fun v=>decide (v.1=no)
theorem Mm(no:Int):∀(l:List bh) (i:Int),bj (fun i (x:bh) (s:Unit) K=>bif decide (x.1=no) then some (Sum.inl (x.2.1,true)) else K s) (fun _=>some (Sum.inr ())) l i ()=some (match eM l no with
 |some v=> .inl (v.2.1,true)
 |none=>(.inr ():Sum jy Unit))
 | [],i=>rfl
 |x::r,i=>by
  rw[bj]
  unfold eM
  rw[List.find?_cons]
  cases hx:decide (x.1=no) with
  |true=>rfl
  |false=>exact Mm no r (i+1)
theorem akt(m:bJ)(no:Int)(h:m.2.1.length<=1000000):nR m no=some (match eM m.2.1 no with
 |some v=>(v.2.1,true)
 |none=>(bs [],false)):=by
 unfold nR TP
 dsimp only
 have:=cu ns m.2.1 (by rw[zh];omega) (fun i (x:bh) (s:Unit) K=>bif decide (x.1=no) then some (Sum.inl (x.2.1,true)) else K s) (fun _=>some (Sum.inr ())) (fun k i s=>PF k no m.2.1 (m.2.1.length:Int) i) (fun k i s=>rfl) ()
 rw[this,Mm]
 cases eM m.2.1 no<;>rfl
def ia(s:aX)(e:Int):ByteArray:=match eM s.2.2.2.1 e with
 |some c=>c.2.1
 |none=>match eM s.2.2.2.1 0 with
  |some c=>c.2.1
  |none=>bs []
theorem KP(s:aX)(e:Int)(q:List Int)(n i0:Int):∀(l:List bh) (i:Int),bj (fun i (x:bh) (u:Unit) K=>bif decide (x.1=e) then some (Sum.inl (x.2.1,q,n,i0,s)) else K u) (fun _=>some (Sum.inr (q,n,i0,s))) l i ()=some (match eM l e with
 |some v=> .inl (v.2.1,q,n,i0,s)
 |none=>(.inr (q,n,i0,s):Sum (ByteArray×List Int×Int×Int×aX) (List Int×Int×Int×aX)))
 | [],i=>rfl
 |x::r,i=>by
  rw[bj]
  unfold eM
  rw[List.find?_cons]
  cases hx:decide (x.1=e) with
  |true=>rfl
  |false=>exact KP s e q n i0 r (i+1)
theorem al4(s:aX)(hs:s.2.2.2.1.length<=1000000)(e:Int)(q:List Int)(n i0:Int):Gc ag e q n i0 s.2.2.2.1 (s.2.2.2.1.length:Int) 0 s=some (match eM s.2.2.2.1 e with
 |some v=> .inl (v.2.1,q,n,i0,s)
 |none=>(.inr (q,n,i0,s):Sum (ByteArray×List Int×Int×Int×aX) (List Int×Int×Int×aX))):=by
 rw[<-KP s e q n i0 s.2.2.2.1 0]
 exact cu ns s.2.2.2.1 (by rw[zh];omega) (fun i (x:bh) (u:Unit) K=>bif decide (x.1=e) then some (Sum.inl (x.2.1,q,n,i0,s)) else K u) (fun _=>some (Sum.inr (q,n,i0,s))) (fun k i u=>Gc k e q n i0 s.2.2.2.1 (s.2.2.2.1.length:Int) i s) (fun k i u=>rfl) ()
theorem akn(s:aX)(hs:s.2.2.2.1.length<=1000000)(e:Int):sS s e=some (ia s e):=by
 obtain⟨k,hk⟩:=GI
 have h1:=al4 s hs
 unfold sS Uf ia
 dsimp only
 rw[show(List.length [e,(0:Int)]:Int)=2 from rfl]
 have step:∀(K i:Nat) (x:Int),i<2->List.getD [e,(0:Int)] i 0=x->A3 (K+1) [e,0] 2 (i:Int) s=match eM s.2.2.2.1 x with
  |some v=>some (.inr v.2.1)
  |none=>A3 K [e,0] 2 ((i+1:Nat):Int) s:=by
  intro K i x hi hx
  conv=>lhs;unfold A3 PN
  rw[zT (by omega),zC,show(List.length [e,(0:Int)])=2 from rfl,zi hi,Int.toNat_natCast,hx]
  dsimp only
  rw[h1,zc]
  cases eM s.2.2.2.1 x with
  |some v=>rfl
  |none=>
   dsimp only
   rw[Sum.elim_inr]
   unfold Ug
   dsimp only
   rw[zr (by omega)]
 have s0:=step (k+1+1) 0 e (by decide) rfl
 have s1:=step (k+1) 1 0 (by decide) rfl
 rw[show((0:Nat):Int)=0 from rfl] at s0
 rw[hk,s0]
 cases eM s.2.2.2.1 e with
 |some v=>rfl
 |none=>
  dsimp only
  rw[s1]
  cases eM s.2.2.2.1 0 with
  |some v=>rfl
  |none=>
   dsimp only
   unfold A3 PN
   rw[zF (by decide)];rfl
def fq(l:List bh):List Int->bJ->bJ
 | [],o=>o
 |no::r,o=>fq l r (match eM l no with
  |some v=>ej o no v.2.1
  |none=>o)
def se(s:aX)(m:bJ)(e:Int):bJ:=ej (fq m.2.1 s.2.2.1 (di m.1,[],())) 39 (ia s e)
def D3(s:aX)(m:bJ)(f:bY):bJ×Bool:=if eB m.1=true then(se s m f.1,true) else(dn,false)
theorem zqu(m:bJ)(no:Int)(t:ByteArray):(ej m no t).2.1.length<=m.2.1.length+1:=Sk m no t
theorem zhp(l:List bh):∀(e:List Int) (o:bJ),(fq l e o).2.1.length<=o.2.1.length+e.length
 | [],o=>Nat.le_refl _
 |no::r,o=>by
  rw[fq,List.length_cons]
  have h:=zhp l r (match eM l no with
   |some v=>ej o no v.2.1
   |none=>o)
  cases hx:eM l no with
  |some v=>
   rw[hx] at h
   have:=zqu o no v.2.1
   dsimp only at h⊢
   omega
  |none=>rw[hx] at h;dsimp only at h⊢;omega
theorem zhr{ρ:Type}(m:bJ)(hm:m.2.1.length<=1000000)(fin:bJ->Option ρ):∀(l:List Int) (i:Int) (o:bJ),o.2.1.length+l.length<=1000000->
 bj (fun i (x:Int) (o:bJ) K=>(nR m x).bind fun r2=>(bif r2.2 then((hG o x r2.1).bind fun r3=>K r3) else K o)) fin l i o=fin (fq m.2.1 l o)
 | [],i,o,_=>rfl
 |x::r,i,o,h=>by
  rw[List.length_cons] at h
  rw[bj,akt m x hm,zc,fq]
  cases hx:eM m.2.1 x with
  |some v=>
   have:=zqu o x v.2.1
   dsimp only
   rw[zC,Sm o x _ (by omega),zc]
   exact zhr m hm fin r (i+1) _ (by omega)
  |none=>exact zhr m hm fin r (i+1) o (by omega)
theorem ahb(s:aX)(m:bJ)(f:bY)(hs:cW s)(he:s.2.2.1.length<=300)(hm:eN m):sQ s m f=some (D3 s m f):=by
 have B5:=hm.len
 unfold sQ T6 D3
 rw[abV m.1 (by rw[zh];exact hm.uq),zc]
 cases hr:eB m.1 with
 |false=>rfl
 |true=>
  rw[if_pos rfl,if_pos rfl,Bool.not_true,zD]
  dsimp only
  have hl:=cu (0:Int) s.2.2.1 (by rw[zh];omega) (fun i (x:Int) (o:bJ) K=>(nR m x).bind fun r2=>(bif r2.2 then((hG o x r2.1).bind fun r3=>K r3) else K o)) (fun o=>some (s,f,dn,o)) (fun k i o=>PK k s.2.2.1 (s.2.2.1.length:Int) i s m f dn o) (fun k i o=>rfl) (di m.1,[],())
  have hb:=zhp m.2.1 s.2.2.1 (di m.1,[],())
  rw[hl,zhr m (by omega) _ _ _ _ (by simp;omega),zc]
  unfold T7
  dsimp only at hb⊢
  rw[akn s hs.fQ,zc,Sm _ _ _ (by rw[List.length_nil] at hb;omega),zc]
  rfl
theorem zum{a:Spec}:∀{l:List bh} {prev:List Int} {i:Int},eR a prev l i=none->∀c∈l,bH a c.2.1=0
 | [],_,_,_,c,hc=>by cases hc
 |x::r,prev,i,h,c,rN=>by
  rw[eR] at h
  by_cases hc:hP a prev x=0
  ·rw[zT hc,zC] at h
   rcases List.mem_cons.1 rN with rfl|rN
   ·unfold hP at hc
    cases h1:decide (c.1<0) with
    |true=>rw[h1] at hc;cases hc
    |false=>
     rw[h1,zD] at hc
     cases h2:decide (16<c.1) with
     |true=>rw[h2] at hc;cases hc
     |false=>
      rw[h2,zD] at hc
      cases h3:decide (c.1∈prev) with
      |true=>rw[h3] at hc;cases hc
      |false=>rw[h3,zD] at hc;exact hc
   ·exact zum h c rN
  ·rw[zF hc] at h;cases h
structure tk(s:aX):Prop where
 iw:(gX s.1).1=0
 act:bq s.1 39=true
 fQ:∀c∈s.2.2.2.1,bH (aY s.1 39) c.2.1=0
 zero:(0:Int)∈s.2.2.2.1.map fun c=>c.1
theorem aj8{s:aX}(h:(fF s).1=0):tk s:=by
 unfold fF at h
 by_cases h1:(gX s.1).1=0
 case neg=>rw[zF h1] at h;cases h
 rw[zT h1,Bool.not_true,zD] at h
 cases h2:bq s.1 39 with
 |false=>rw[h2] at h;cases h
 |true=>
  rw[h2,Bool.not_true,zD] at h
  have ne:∀{l:List Int} {prev:List Int} {i:Int} {e:Int×Int},fS s.1 prev l i=some e->e.1≠0:=by
   intro l
   induction l with
   |nil=>intro _ _ _ h;cases h
   |cons x r ih=>
    intro prev i e h
    rw[fS] at h
    by_cases hc:jX s.1 prev x=0
    ·rw[zT hc,zC] at h;exact ih h
    ·rw[zF hc,zD] at h;cases h;exact hc
  have nc:∀{l:List bh} {prev:List Int} {i:Int} {e:Int×Int},eR (aY s.1 39) prev l i=some e->e.1≠0:=by
   intro l
   induction l with
   |nil=>intro _ _ _ h;cases h
   |cons x r ih=>
    intro prev i e h
    rw[eR] at h
    by_cases hc:hP (aY s.1 39) prev x=0
    ·rw[zT hc,zC] at h;exact ih h
    ·rw[zF hc,zD] at h;cases h;exact hc
  cases h3:fS s.1 [] s.2.2.1 0 with
  |some e=>rw[h3] at h;exact absurd h (ne h3)
  |none=>
   rw[h3] at h
   dsimp only at h
   cases h4:eR (aY s.1 39) [] s.2.2.2.1 0 with
   |some e=>rw[h4] at h;exact absurd h (nc h4)
   |none=>
    rw[h4] at h
    dsimp only at h
    by_cases h5:(0:Int)∈s.2.2.2.1.map fun c=>c.1
    ·exact⟨h1,h2,zum h4,h5⟩
    ·rw[zF h5] at h;cases h
theorem aje{s:aX}(h:tk s)(e:Int):bH (aY s.1 39) (ia s e)=0:=by
 unfold ia
 cases h1:eM s.2.2.2.1 e with
 |some c=>exact h.fQ c (List.mem_of_find?_eq_some h1)
 |none=>
  cases h2:eM s.2.2.2.1 0 with
  |some c=>exact h.fQ c (List.mem_of_find?_eq_some h2)
  |none=>
   obtain⟨c,hc,h0⟩:=List.mem_map.1 h.zero
   have:=List.find?_eq_none.1 h2 c hc
   exact absurd (zT h0) this
theorem K2(l:List bh):∀(e:List Int) (o:bJ) (v:bh),v∈(fq l e o).2.1->v∈o.2.1\/v∈l
 | [],o,v,h=> .inl h
 |no::r,o,v,h=>by
  rw[fq] at h
  rcases K2 l r _ v h with h|h
  ·cases hx:eM l no with
   |none=>rw[hx] at h;exact .inl h
   |some w=>
    rw[hx] at h
    rcases(Sl o no w.2.1 v).1 h with e|⟨h,_⟩
    ·have hw:=List.find?_some hx
     have hw:w.1=no:=by simpa using hw
     right
     rw[e,<-hw]
     exact List.mem_of_find?_eq_some hx
    ·exact .inl h
  ·exact .inr h
theorem zhq(l:List bh):∀(e:List Int) (o:bJ),jN o.2.1->jN (fq l e o).2.1/\(fq l e o).1=o.1
 | [],o,h=>⟨h,rfl⟩
 |no::r,o,h=>by
  rw[fq]
  cases hx:eM l no with
  |none=>exact zhq l r o h
  |some w=>
   obtain⟨h1,h2⟩:=zhq l r (ej o no w.2.1) (ziq h no w.2.1)
   exact⟨h1,h2⟩
structure Part(s:zf)(m:bJ):Prop where
 head:fJ m.1=true->gj m.1=s.2.1
 uq:m.1.size<=1000
 len:m.2.1.length<=200
 js:∀v∈m.2.1,bq s v.1=true/\bH (aY s v.1) v.2.1=0/\v.2.1.size<=999
theorem Part.ok{s:zf}{m:bJ}(h:Part s m):eN m:=⟨by have:=h.uq;omega,by have:=h.len;omega,fun v hv=>by have:=(h.js v hv).2.2;omega⟩
theorem ajb{s:aX}(hk:tk s)(ho:cW s)(he:s.2.2.1.length<=300){m:bJ}(hm:Part s.1 m)(e:Int)(hr:eB m.1=true):kx s.1 (se s m e)/\pC (se s m e)/\eB (se s m e).1=false:=by
 obtain⟨r1,r2,r3⟩:=amu hr
 obtain⟨b1,b2⟩:=zhq m.2.1 s.2.2.1 (di m.1,[],()) List.Pairwise.nil
 have xg:(se s m e).1=di m.1:=b2
 have ok:=(AV s.1).1 hk.iw
 have hc:=aje hk e
 have ey:(ia s e).size<=1099511627776:=by
  unfold ia
  split
  ·rename_i c h;exact ho.rV c (List.mem_of_find?_eq_some h)
  ·split
   ·rename_i c h;exact ho.rV c (List.mem_of_find?_eq_some h)
   ·exact Nat.zero_le _
 have hf:∀v∈(se s m e).2.1,bq s.1 v.1=true/\bH (aY s.1 v.1) v.2.1=0/\v.2.1.size<=999:=fun v hv=>by
  rcases(Sl _ _ _ v).1 hv with rfl|⟨hv,_⟩
  ·obtain⟨v1,v2,v3,_,_⟩:=(Pf _ _ ey).1 hc
   have:=VA v1
   exact⟨hk.act,hc,by dsimp only;omega⟩
  ·rcases K2 _ _ _ v hv with hv|hv
   ·cases hv
   ·exact hm.js v hv
 have Y8:jN (se s m e).2.1:=ziq b1 39 (ia s e)
 refine⟨⟨hk.iw,by rw[xg];exact r1,by rw[xg,r2];exact hm.head (Sj hr).1,z31.2 ⟨fun v hv=>⟨(hf v hv).1,(hf v hv).2.1⟩,Y8,fun v hv=>by have:=amo ok (hf v hv).1;omega⟩⟩,⟨by rw[xg];have:=(ru.1 r1).1;omega,?_,fun v hv=>by have:=(hf v hv).2.2;omega⟩,by rw[xg];exact r3⟩
 have h1:=zhp m.2.1 s.2.2.1 (di m.1,[],())
 have h2:=zqu (fq m.2.1 s.2.2.1 (di m.1,[],())) 39 (ia s e)
 unfold se
 dsimp only[List.length_nil] at h1
 omega
theorem KV(s:zf)(b:ByteArray)(hb:b.size<=1099511627776):∀(r:List Int) (a:Nat) (o:List bh),(∀v∈o,bq s v.1=true/\bH (aY s v.1) v.2.1=0/\v.2.1.size<=999)->(∀v∈(kA s b r a o).1,bq s v.1=true/\bH (aY s v.1) v.2.1=0/\v.2.1.size<=999)/\(kA s b r a o).1.length<=o.length+r.length
 | [],a,o,h=>⟨h,Nat.le_refl _⟩
 |no::r,a,o,h=>by
  rw[kA]
  split
  ·exact⟨h,Nat.le_add_right _ _⟩
  ·rename_i hf
   have hf:bq s no=true:=by cases hh:bq s no with
    |true=>rfl
    |false=>exact absurd hh hf
   split
   ·exact⟨h,Nat.le_add_right _ _⟩
   ·rename_i hz
    generalize hg:qs s.1 (aY s no) b (a:Int)=g at hz⊢
    obtain⟨t,z,e⟩:=g
    dsimp only at hz⊢
    have he:e=0:=Classical.byContradiction fun hn=>hz hn
    subst he
    obtain⟨c1,c2,c3,c4,c5,c6⟩:=zul hb hg
    have h2:∀v∈o++ [((no,t,()):bh)],bq s v.1=true/\bH (aY s v.1) v.2.1=0/\v.2.1.size<=999:=fun v hv=>by
     rcases List.mem_append.1 hv with hv|hv
     ·exact h v hv
     ·rw[List.mem_singleton.1 hv];exact⟨hf,c2,c5⟩
    obtain⟨i1,i2⟩:=KV s b hb r z.toNat _ h2
    rw[List.length_append,List.length_singleton] at i2
    exact⟨i1,by rw[List.length_cons];omega⟩
theorem AB(s:zf):Part s dn:=⟨fun h=>(by cases h),Nat.zero_le _,Nat.zero_le _,fun v hv=>(by cases hv)⟩
theorem aji(s:zf)(b:ByteArray)(hb:b.size<=1099511627776):Part s (mT s b).1:=by
 unfold mT
 split
 ·exact AB s
 cases ht:ot s b with
 |inl e=>exact AB s
 |inr q=>
  unfold ot at ht
  split at ht
  ·cases ht
  split at ht
  case isFalse=>cases ht
  rename_i hr
  injection ht with ht
  subst ht
  have h4:=(ru.1 hr.1).1
  show Part s (wT s b (iQ s.1 b) _).1
  unfold wT
  split
  ·exact⟨fun _=>hr.2,by dsimp only;omega,Nat.zero_le _,fun v hv=>by cases hv⟩
  ·obtain⟨p1,p2⟩:=KV s b hb (elems (cS s.1 b (iz s.1)).1 (cS s.1 b (iz s.1)).2.1) (cS s.1 b (iz s.1)).2.2.1.toNat [] (fun v hv=>by cases hv)
   have:=zqa (cS s.1 b (iz s.1)).1 (cS s.1 b (iz s.1)).2.1
   rw[List.length_nil] at p2
   exact⟨fun _=>hr.2,by dsimp only;omega,by dsimp only;omega,p1⟩
def n7(p:aX)(n:Int)(m:bJ)(f:bY):Int×ByteArray:=
 if eB m.1=true then(if n<((jq p.1 (se p m f.1)).size:Int) then(3,bs []) else(2,jq p.1 (se p m f.1))) else(3,bs [])
def Ck(p q:aX)(n:Int)(m:bJ)(t:bJ×bY):Int×ByteArray:=
 if¬t.2.1=0 then n7 p n m t.2 else if n<((jq q.1 t.1).size:Int) then n7 p n m (5,129,()) else(1,jq q.1 t.1)
def Cj(p q:aX)(n:Int)(d:bJ×bY):Int×ByteArray:=if¬d.2.1=0 then n7 p n d.1 d.2 else Ck p q n d.1 (rI p.2.1 p.1 q.1 d.1)
def re(p q:aX)(n:Int)(b:ByteArray):Int×ByteArray:=Cj p q n (mT p.1 b)
structure qw(p q:aX)(n:Int):Prop where
 n1:1<=n
 n2:n<=65535
 rp:(fF p).1=0
 rq:(fF q).1=0
 mp:(du p.2.1 p.1 q.1).1=0
 mq:(du q.2.1 q.1 p.1).1=0
theorem qw.symm{p q:aX}{n:Int}(h:qw p q n):qw q p n:=⟨h.n1,h.n2,h.rq,h.rp,h.mq,h.mp⟩
theorem cO.symm{p q:aX}(h:cO p q):cO q p:=⟨h.sq,h.sp,h.qm,h.pm,h.Cq,h.Cn,h.qe,h.pe,h.qml,h.pml,h.aaV,h.aaU⟩
theorem zq9{p q:aX}{n:Int}:(gu p q n).1=0↔qw p q n:=by
 unfold gu
 by_cases h1:n<1
 ·rw[zT h1];exact⟨fun h=>(by cases h),fun h=>by have:=h.n1;omega⟩
 by_cases h2:65535<n
 ·rw[zF h1,zT h2];exact⟨fun h=>(by cases h),fun h=>by have:=h.n2;omega⟩
 rw[zF h1,zF h2,zD,zD]
 by_cases h3:(fF p).1=0
 case neg=>rw[zF h3];exact⟨fun h=>absurd h h3,fun h=>absurd h.rp h3⟩
 rw[zT h3,Bool.not_true,zD]
 by_cases h4:(du p.2.1 p.1 q.1).1=0
 case neg=>rw[zF h4];exact⟨fun h=>absurd h h4,fun h=>absurd h.mp h4⟩
 rw[zT h4,Bool.not_true,zD]
 by_cases h5:(fF q).1=0
 case neg=>rw[zF h5];exact⟨fun h=>absurd h h5,fun h=>absurd h.rq h5⟩
 rw[zT h5,Bool.not_true,zD]
 by_cases h6:(du q.2.1 q.1 p.1).1=0
 case neg=>rw[zF h6];exact⟨fun h=>absurd h h6,fun h=>absurd h.mq h6⟩
 rw[zT h6]
 exact⟨fun _=>⟨by omega,by omega,h3,h5,h4,h6⟩,fun _=>rfl⟩
theorem ajq{s:zf}{m:bJ}(h:kx s m):2<=(jq s m).size:=by
 have ho:=(AV s).1 h.iw
 have:=(agW (s:=s) ho.1 (m:=m.1) (y:=bs []) h.right).2
 have hz:2<=iz s.1:=by unfold iz;split<;>omega
 unfold jq
 rw[AY,AY]
 omega
theorem N4{s:zf}{m:bJ}(h:kx s m):qo s m=(jq s m,km):=by
 unfold qo
 rw[if_pos (Pd.2 h)]
theorem agR{p q:aX}(h:cO p q){m:bJ}(hm:eN m)(ht:(rI p.2.1 p.1 q.1 m).2.1=0):kx q.1 (rI p.2.1 p.1 q.1 m).1/\eN (rI p.2.1 p.1 q.1 m).1:=by
 rcases ack p.2.1 p.1 q.1 m with⟨f,hf,e⟩|⟨ys,hd,e⟩
 ·rw[e] at ht;exact absurd ht hf
 ·rw[e];exact⟨hd.out h.pm hm,hd.ok h.pm hm⟩
section
variable {p q:aX} {n:Int} (h:cO p q) (h0:qw p q n)
include h h0
theorem CW{m:bJ}(hm:Part p.1 m)(f:bY)(cl:List aX):ky m f p (cl,n,())=some (n7 p n m f):=by
 unfold ky Un n7
 rw[ahb p m f h.sp h.pe hm.ok,zc]
 unfold D3
 cases hr:eB m.1 with
 |false=>rfl
 |true=>
  obtain⟨b1,b2,_⟩:=ajb (aj8 h0.rp) h.sp h.pe hm f.1 hr
  have hp:=ajq b1
  rw[if_pos rfl,if_pos rfl]
  dsimp only
  rw[Bool.not_true,zD,z116 p.1 _ h.sp.iw b2.ok,zc,N4 b1]
  dsimp only
  rw[zF (fun e=>by rw[e] at hp;exact absurd hp (by decide)),zD]
  by_cases hn:n<((jq p.1 (se p m f.1)).size:Int)
  ·rw[zT hn,if_pos hn];rfl
  ·rw[zF hn,if_neg hn];rfl
theorem OH(b:ByteArray)(hb:b.size<=1099511627776)(cl:List aX):((qH p.1 b).bind fun r2=>(bif(!(decide (r2.2.1=(0:Int)))) then((ky r2.1 r2.2 p (cl,n,())).bind fun r3=>some (r3.1,r3.2)) else((qJ p.2.1 p.1 q.1 r2.1).bind fun r4=>(bif(!(decide (r4.2.1=(0:Int)))) then((ky r2.1 r4.2 p (cl,n,())).bind fun r5=>some (r5.1,r5.2)) else((nY q.1 r4.1).bind fun r6=>(bif(decide (n<((r6.1).size:Int))) then((ky r2.1 ((5:Int),(129:Int),()) p (cl,n,())).bind fun r7=>some (r7.1,r7.2)) else some ((1:Int),r6.1)))))))=some (re p q n b):=by
 have lf:=aji p.1 b hb
 have fx:=lf.ok
 rw[adD p.1 b h.sp.iw hb,zc]
 unfold re Cj
 by_cases hd:(mT p.1 b).2.1=0
 case neg=>rw[zF hd,Bool.not_false,zC,if_pos hd,CW h h0 lf,zc]
 rw[zT hd,Bool.not_true,zD,if_neg (fun e=>e hd),abu p.2.1 p.1 q.1 _ h.pm (by have:=h.pml;omega) fx (by have:=lf.len;omega) h.sp.iw h.sq.iw,zc]
 unfold Ck
 by_cases ht:(rI p.2.1 p.1 q.1 (mT p.1 b).1).2.1=0
 case neg=>rw[zF ht,Bool.not_false,zC,if_pos ht,CW h h0 lf,zc]
 obtain⟨t1,t2⟩:=agR h fx ht
 rw[zT ht,Bool.not_true,zD,if_neg (fun e=>e ht),z116 q.1 _ h.sq.iw t2,zc,N4 t1]
 dsimp only
 by_cases hn:n<((jq q.1 (rI p.2.1 p.1 q.1 (mT p.1 b).1).1).size:Int)
 ·rw[zT hn,zC,if_pos hn,CW h h0 lf,zc]
 ·rw[zF hn,zD,if_neg hn]
end
def kf(p q:aX)(n link:Int)(b:ByteArray):Int×ByteArray:=
 if¬(gu p q n).1=0 then(0,bs []) else if link=0 then re p q n b else if link=1 then re q p n b else(0,bs [])
theorem acz(p q:aX)(n link:Int)(b:ByteArray)(h:cO p q)(hb:b.size<=1099511627776):sV ([p,q],n,()) link b=some (kf p q n link b):=by
 unfold sV Um kf
 rw[zdv p q n h,zc]
 by_cases hc:(gu p q n).1=0
 case neg=>rw[zF hc,if_pos hc];rfl
 have h0:=zq9.1 hc
 rw[zT hc,Bool.not_true,zD,if_neg (fun e=>e hc)]
 by_cases l0:link=0
 ·subst l0
  rw[if_pos rfl,zF (by decide),zD,zF (by decide),zD]
  simp only[uK,uL,xK,Ft,Fu]
  exact OH h h0 b hb [p,q]
 ·rw[if_neg l0]
  by_cases l1:link=1
  ·subst l1
   rw[if_pos rfl,zF (by decide),zD,zF (by decide),zD]
   simp only[uK,uL,xL,Ft,Fu]
   exact OH h.symm h0.symm b hb [p,q]
  ·rw[if_neg l1]
   by_cases l2:link<0
   ·rw[zT l2];rfl
   ·rw[zF l2,zD,zT (by omega)];rfl
theorem acD(p q:aX)(n:Int)(h:cO p q):sG ([p,q],n,())=some (decide ((gu p q n).1=0)):=by
 unfold sG Tp
 rw[acu p q n h,zc]
theorem alV{c:EX}(hc:Wf C3 c):∃p q n,c=([p,q],n,())/\∃g,nQ c=some g/\(g=false->cO p q):=by
 obtain⟨p,q,e⟩:=agV hc.1.1
 obtain⟨cl,n,u⟩:=c
 simp only[Prod.mk.injEq] at e
 obtain⟨rfl,_⟩:=e
 obtain⟨g,hg,fx⟩:=ac2 (p:=p) (q:=q) hc
 exact⟨p,q,n,rfl,g,hg,fx⟩
end bn

namespace bn
open Go.IntKind renaming wrap->zW,i64->zI,u8->zU
open Go Go.Ref
theorem N6(m:Int):Ho m=some (if m<1\/65535<m then .inl 5 else .inr (0,(m,false,[],()))):=by
 unfold Ho WT
 by_cases h1:m<1
 ·simp [h1]
 ·by_cases h2:65535<m<;>simp [h1,h2]
def bm(m:Int)(l:List Int):Bool×List Int×List ByteArray:=l.foldl (aW m) (false,[],[])
theorem ajw(m:Int)(l:List Int):∀(d:Bool) (b:List Int) (o:List ByteArray),l.foldl (aW m) (d,b,o)=((l.foldl (aW m) (d,b,[])).1,(l.foldl (aW m) (d,b,[])).2.1,o++(l.foldl (aW m) (d,b,[])).2.2):=by
 induction l with
 |nil=>intro d b o;simp
 |cons c r ih=>
  intro d b o
  rw[List.foldl_cons,List.foldl_cons]
  have h:aW m (d,b,o) c=((aW m (d,b,[]) c).1,(aW m (d,b,[]) c).2.1,o++(aW m (d,b,[]) c).2.2):=by
   unfold aW
   simp only
   split
   ·simp
   ·split
    ·simp
    ·split<;>simp
  rw[h,ih]
  generalize aW m (d,b,[]) c=st
  obtain⟨d',b',o'⟩:=st
  rw[ih d' b' o']
  simp
theorem zoi(m:Int)(a b:List Int):bm m (a++b)=((b.foldl (aW m) ((bm m a).1,(bm m a).2.1,[])).1,(b.foldl (aW m) ((bm m a).1,(bm m a).2.1,[])).2.1,(bm m a).2.2++(b.foldl (aW m) ((bm m a).1,(bm m a).2.1,[])).2.2):=by
 unfold bm
 rw[List.foldl_append]
 generalize a.foldl (aW m) (false,[],[])=st
 obtain⟨d,c,o⟩:=st
 rw[ajw]
def dD(m:Int)(l:List Int):Fr:=(m,(bm m l).1,(bm m l).2.1,())
theorem afX(m:Int)(a b:List Int):feed (dD m a) b=((b.foldl (aW m) ((bm m a).1,(bm m a).2.1,[])).2.2,decide ((bm m (a++b)).1=true/\(bm m a).1=false),dD m (a++b)):=by
 unfold feed dD
 rw[zoi]
theorem ac0(m:Int)(st:Bool×List Int×List ByteArray)(c:Int)(hc:zo c)(h:(∀x∈st.2.1,zo x)):∀x∈(aW m st c).2.1,zo x:=by
 unfold aW
 split
 ·exact h
 ·split
  ·simp
  ·split
   ·simp
   ·intro x hx
    rcases List.mem_append.1 hx with hx|hx
    ·exact h x hx
    ·simp at hx;subst hx;exact hc
theorem afY(m:Int)(l:List Int):∀(st:Bool×List Int×List ByteArray),(∀x∈l,zo x)->(∀x∈st.2.1,zo x)->∀x∈(l.foldl (aW m) st).2.1,zo x:=by
 induction l with
 |nil=>intro st _ h;exact h
 |cons c r ih=>intro st hl h;exact ih _ (fun x hx=>hl x (by simp [hx])) (ac0 m st c (hl c (by simp)) h)
theorem agC(m:Int)(l:List Int)(h:∀x∈l,zo x):∀x∈(bm m l).2.1,zo x:=afY m l _ h (by simp)
theorem Su(m:Int)(l:List Int):∀(st:Bool×List Int×List ByteArray),(l.foldl (aW m) st).2.1.length<=st.2.1.length+l.length/\(l.foldl (aW m) st).2.2.length<=st.2.2.length+l.length:=by
 induction l with
 |nil=>intro st;simp
 |cons c r ih=>
  intro st
  have h:(aW m st c).2.1.length<=st.2.1.length+1/\(aW m st c).2.2.length<=st.2.2.length+1:=by
   unfold aW
   split
   ·omega
   ·split
    ·simp
    ·split<;>simp
  have:=ih (aW m st c)
  simp only[List.foldl_cons,List.length_cons]
  omega
theorem MK(m:Int)(l:List Int):(bm m l).2.1.length<=l.length/\(bm m l).2.2.length<=l.length:=by
 have:=Su m l (false,[],[])
 simpa [bm] using this
theorem abF(m:Int)(a:List Int)(s:ByteArray)(ha:∀x∈a,zo x)(h:a.length+s.size<=4398046511104):Bm (dD m a) s=some (((bl s).foldl (aW m) ((bm m a).1,(bm m a).2.1,[])).2.2,decide ((bm m (a++bl s)).1=true/\(bm m a).1=false),dD m (a++bl s)):=by
 rw[amb _ _ (agC m a ha) (by have:=(MK m a).1;simp only[dD];omega),afX]
def sizes(l:List ByteArray):Nat:=(l.map ByteArray.size).sum
theorem abH(most:Int)(h0:0<=most)(h1:most<=1000000)(l:List ByteArray)(hl:l.length<=maxLen):∀(n j k:Nat) (c:Nat),j+n=l.length->n<k->c<=9223372036854775807->
 ∃b,(EI k l most c j).bind (fun e=>Sum.elim (fun we=>Tv we.1 we.2.1 we.2.2 (fun a0=>some a0)) (fun we=>Tw we.1 we.2 (fun a0=>some a0)) e)=some b/\(b=false->((c+sizes (l.drop j):Nat):Int)<=most):=by
 intro n
 rw[zh] at hl
 induction n with
 |zero=>
  intro j k c hj hk hc
  obtain⟨k,rfl⟩:∃k',k=k'+1:=⟨k-1,by omega⟩
  rw[EI,Px,zF (by omega),List.drop_eq_nil_of_le (by omega)]
  refine⟨decide (most<(c:Int)),rfl,fun h=> ?_⟩
  simp [sizes] at h⊢
  omega
 |succ n ih=>
  intro j k c hj hk hc
  obtain⟨k,rfl⟩:∃k',k=k'+1:=⟨k-1,by omega⟩
  have aq:j<l.length:=by omega
  rw[EI,Px,zT (by omega),zC,zi aq]
  have hx:l.getD ((j:Int)).toNat (bs [])=l[j]:=by rw[Int.toNat_natCast,List.getD_eq_getElem?_getD,List.getElem?_eq_getElem aq];rfl
  rw[hx]
  by_cases c1:most<(c:Int)
  ·exact⟨true,by rw[zT c1];rfl,fun h=>by cases h⟩
  rw[zF c1,zD]
  by_cases c2:most<((l[j]).size:Int)
  ·exact⟨true,by rw[zT c2];rfl,fun h=>by cases h⟩
  rw[zF c2,zD,zi aq,zr (by omega),zk (by omega) (by omega)]
  obtain⟨b,h1,h2⟩:=ih (j+1) k (c+(l[j]).size) (by omega) (by omega) (by omega)
  rw[show(((c:Int))+((l[j]).size:Int))=((c+(l[j]).size:Nat):Int) by omega]
  refine⟨b,h1,fun hb=> ?_⟩
  have:=h2 hb
  rw[List.drop_eq_getElem_cons aq]
  simp only[sizes,List.map_cons,List.sum_cons] at this⊢
  omega
theorem ame(l:List ByteArray)(most:Int)(h0:0<=most)(h1:most<=1000000)(hl:l.length<=maxLen):∃b,vH l most=some b/\(b=false->((l.length+sizes l:Nat):Int)<=most):=by
 have:=abH most h0 h1 l hl l.length 0 ag l.length (by omega) (by rw[zq];rw[zh] at hl;omega) (by rw[zh] at hl;omega)
 rw[List.drop_zero] at this
 exact this
theorem Ld{l:List ByteArray}{j:Nat}(h:j<l.length):l.getD ((j:Int)).toNat (bs [])=l[j]:=by
 rw[Int.toNat_natCast,List.getD_eq_getElem?_getD,List.getElem?_eq_getElem h];rfl
theorem ajx(p:ByteArray)(h:p.size<=70000):Bn p=some (if p.size<1\/65535<p.size then(bs [],5) else(strOf [(p.size:Int)/256,(p.size:Int)% 256]++p,0)):=by
 unfold Bn WU
 by_cases h1:p.size<1
 ·rw[zT (by omega),if_pos (.inl h1)];rfl
 rw[zF (by omega),zD]
 by_cases h2:65535<p.size
 ·rw[zT (by omega),if_pos (.inr h2)];rfl
 rw[zF (by omega),if_neg (by omega),vk,zT (by simp;omega)]
 have e1:zW zU (Int.fdiv (p.size:Int) (2^min ((8:Int)).toNat 64))=(p.size:Int)/256:=by
  rw[Int.fdiv_eq_ediv_of_nonneg _ (by decide),Ea]
  have:((2:Int)^min ((8:Int)).toNat 64)=256:=by decide
  rw[this];omega
 have e2:zW zU (p.size:Int)=(p.size:Int)% 256:=Ea _
 rw[e1,e2];rfl
theorem L3{e:TypeId}{l:List ByteArray}(h:Wf (.sl e .str) l):l.length<=maxLen:=h.1
def lg(l:List ByteArray):ByteArray:=l.foldl (· ++ ·) (bs [])
theorem afZ(l:List ByteArray):∀a:ByteArray,bl (l.foldl (· ++ ·) a)=bl a++(l.map bl).flatten:=by
 induction l with
 |nil=>intro a;simp
 |cons x r ih=>intro a;rw[List.foldl_cons,ih,rX];simp
theorem Ma(l:List ByteArray):bl (lg l)=(l.map bl).flatten:=by
 unfold lg;rw[afZ,zq6];simp
theorem af6(l:List ByteArray)(hl:l.length<=maxLen):∀(n j k:Nat) (a:ByteArray),j+n=l.length->n<k->a.size+sizes (l.drop j)<=1000000000->
 EJ k l a j=some ((l.drop j).foldl (· ++ ·) a):=by
 intro n
 rw[zh] at hl
 induction n with
 |zero=>
  intro j k a hj hk hs
  obtain⟨k,rfl⟩:∃k',k=k'+1:=⟨k-1,by omega⟩
  rw[EJ,Py,zF (by omega),List.drop_eq_nil_of_le (by omega)];rfl
 |succ n ih=>
  intro j k a hj hk hs
  obtain⟨k,rfl⟩:∃k',k=k'+1:=⟨k-1,by omega⟩
  have aq:j<l.length:=by omega
  rw[List.drop_eq_getElem_cons aq] at hs
  simp only[sizes,List.map_cons,List.sum_cons] at hs
  rw[EJ,Py,zT (by omega),zC,zi aq,Ld aq,zT (by omega),zC,zr (by omega),ih (j+1) k (a++l[j]) (by omega) (by omega) (by rw[ByteArray.size_append];simp only[sizes];omega),List.drop_eq_getElem_cons aq]
  rfl
theorem aks(l:List ByteArray)(hl:l.length<=maxLen)(hs:sizes l<=1000000000):sI l=some (lg l):=by
 unfold sI Tz
 have:=af6 l hl l.length 0 ag (bs []) (by omega) (by rw[zq];rw[zh] at hl;omega) (by rw[List.drop_zero];have:(bs []).size=0:=rfl;omega)
 rw[show((0:Nat):Int)=0 from rfl] at this
 simp only[this,zc,TA]
 rfl
theorem ac7(l:List ByteArray):(lg l).size=sizes l:=by
 rw[<-zg,Ma]
 unfold sizes
 induction l with
 |nil=>rfl
 |cons x r ih=>simp only[List.map_cons,List.flatten_cons,List.length_append,List.sum_cons,zg] at ih⊢;omega
section
variable {m:Map} {a b:zf} {x:bJ} {ys:List bh}
end
end bn

namespace bn
open Go.IntKind renaming wrap->zW,i64->zI,u8->zU
open Go Go.Ref
section
variable {p q:aX} {n:Int} (h:cO p q) (h0:qw p q n)
include h
include h0
end
end bn

namespace bn
open Go.IntKind renaming wrap->zW,i64->zI,u8->zU
open Go Go.Ref
abbrev fe:=Int×Int×ByteArray×Int×Unit
abbrev Gw:=EX×(Option Fr×Option Fr)×Int
def Cm(i:Int)(x:aU)(s:List aU)(K:List aU->Option (List aU×aX×aX)):Option (List aU×aX×aX):=
 bif(decide (x.2.2.2.2.1.length*32<=140737488355328)) then(bif(decide ((s.length+(List.length ([(x.1,x.2.1,x.2.2.1,x.2.2.2.1,x.2.2.2.2.1,())]:List aU)))*64<=140737488355328)) then K (s++ [(x.1,x.2.1,x.2.2.1,x.2.2.2.1,x.2.2.2.2.1,())]) else none) else none
theorem NR(b1 b2:aX):∀(l:List aU) (i:Int) (s:List aU),(∀r∈l,dR r)->s.length+l.length<=1000000->bj Cm (fun s=>some (s,b1,b2)) l i s=some (s++l,b1,b2)
 | [],i,s,_,_=>by rw[List.append_nil];rfl
 |x::l,i,s,h,hl=>by
  have hp:=(h x (by simp)).fc.len
  simp only[List.length_cons] at hl
  rw[bj,Cm,zT (by omega),zC,zT (by simp only[List.length_cons,List.length_nil];omega),zC,NR b1 b2 l (i+1) _ (fun r hr=>h r (by simp [hr])) (by simp;omega)]
  rw[List.append_assoc];rfl
theorem OD(s:aX)(h:cW s)(hm:dG s.2.1)(h2:s.1.2.2.1.length<=200):Hx s=some s:=by
 have he:=h.n9
 have hc:=h.fQ
 have hl:=hm.len
 have ht:=hm.nj.len
 unfold Hx W6
 rw[zT (by omega),zC,zT (by omega),zC,zT (by omega),zC,zT (by omega),zC]
 have:=cu ((0:Int),(0:Int),(0:Int),bs [],([]:List bA),()) s.2.1.2.1 (by rw[zh];omega) Cm (fun l=>some (l,(s.1,s.2.1,s.2.2.1,s.2.2.2.1,()),qk))
  (fun k i l=>Qp k l s.2.1.2.1 (s.2.1.2.1.length:Int) i (s.1,s.2.1,s.2.2.1,s.2.2.2.1,()) qk) (fun k i l=>rfl) []
 dsimp only
 refine(congrArg (fun o=>Option.bind o _) (this.trans (NR _ _ s.2.1.2.1 0 [] hm.rules (by simp;omega)))).trans ?_
 rw[zc,List.nil_append]
 unfold W7
 rw[zT (by show s.2.2.1.length*8<=_;omega),zC,zT (by show s.2.2.2.1.length*24<=_;omega),zC]
def gw(c:EX)(n:Int)(x y:ByteArray)(d:Int):Gw:=(c,(some (dD n (bl x)),some (dD n (bl y))),d)
theorem ahg(p q:aX)(n:Int)(h:cO p q):yl ([p,q],n,())=some (if(gu p q n).1=0 then .inr (0,gw ([p,q],n,()) n (bs []) (bs []) 0) else .inl 1):=by
 obtain⟨k,hk⟩:=GI
 unfold yl W3
 rw[zdv p q n h,zc]
 by_cases h0:(gu p q n).1=0
 case neg=>rw[zF h0,if_neg h0];rfl
 rw[zT h0,if_pos h0,Bool.not_true,zD,hk]
 have hc:=zq9.1 h0
 have hn:¬(n<1\/65535<n):=fun e=>by have:=hc.n1;have:=hc.n2;omega
 unfold E6 Gv
 simp only[uK,uL,xK,xL,AM,AN,gp,gq,Ft,Fu,qi,qj]
 rw[zT (by decide:(0:Int)<2),zC,OD p h.sp h.pm h.Cn,zc,N6,zc,if_neg hn,Sum.elim_inr]
 dsimp only
 unfold E6 Gv
 simp only[uK,uL,xK,xL,AM,AN,gp,gq,Ft,Fu,qi,qj]
 rw[zT (by decide:(1:Int)<2),zC,OD q h.sq h.qm h.Cq,zc,N6,zc,if_neg hn,Sum.elim_inr]
 dsimp only
 unfold E6 Gv
 rw[zF (by decide:¬(2:Int)<2),zD]
 rfl
abbrev Ev:=Int×ByteArray×Unit
abbrev Item:=Int×Option ByteArray
def xx(b:ByteArray):ByteArray:=if b.size<1\/65535<b.size then bs [] else strOf [(b.size:Int)/256,(b.size:Int)% 256]++b
theorem af0(b:ByteArray)(h:b.size<=70000):∃e,Bn b=some (xx b,e):=by
 rw[ajx b h]
 unfold xx
 by_cases hb:b.size<1\/65535<b.size
 ·rw[if_pos hb,if_pos hb];exact⟨_,rfl⟩
 ·rw[if_neg hb,if_neg hb];exact⟨_,rfl⟩
theorem zh6{n:Int}(hn:n<=65535)(p:aX)(m:bJ)(f:bY):(n7 p n m f).2.size<=65535:=by
 unfold n7
 split
 ·split
  ·exact Nat.zero_le _
  ·rename_i h
   show(jq p.1 (se p m f.1)).size<=65535
   omega
 ·exact Nat.zero_le _
theorem LD{n:Int}(hn:n<=65535)(p q:aX)(b:ByteArray):(re p q n b).2.size<=65535:=by
 unfold re Cj
 split
 ·exact zh6 hn _ _ _
 ·unfold Ck
  split
  ·exact zh6 hn _ _ _
  ·split
   ·exact zh6 hn _ _ _
   ·rename_i h
    show(jq q.1 _).size<=65535
    omega
theorem ago{p q:aX}{n:Int}(link:Int)(b:ByteArray):(kf p q n link b).2.size<=65535:=by
 unfold kf
 split
 ·exact Nat.zero_le _
 ·rename_i h
  have h0:=zq9.1 (Decidable.not_not.1 h)
  split
  ·exact LD h0.n2 _ _ _
  ·split
   ·exact LD h0.n2 _ _ _
   ·exact Nat.zero_le _
def xv(p q:aX)(n link d:Int)(b:ByteArray):fe×Int:=
 if(kf p q n link b).1=3 then((link,3,bs [],zW zI (d+1),()),zW zI (d+1))
 else if(kf p q n link b).1=1 then((zW zI (1-link),1,xx (kf p q n link b).2,d,()),d)
 else((link,(kf p q n link b).1,xx (kf p q n link b).2,d,()),d)
theorem adf(p q:aX)(n link d:Int)(b:ByteArray)(m:Option Fr×Option Fr)(h:cO p q)(hb:b.size<=1099511627776):
 Fl (([p,q],n,()),m,d) link b=some ((xv p q n link d b).1,(([p,q],n,()),m,(xv p q n link d b).2)):=by
 unfold Fl WZ xv
 rw[acz p q n link b h hb,zc]
 have hs:=ago (p:=p) (q:=q) (n:=n) link b
 obtain⟨e,hp⟩:=af0 _ (show(kf p q n link b).2.size<=70000 by omega)
 generalize kf p q n link b=r at hs hp⊢
 by_cases h3:r.1=3
 ·rw[zT h3,if_pos h3,zC,h3]
 rw[zF h3,if_neg h3,zD]
 by_cases h1:r.1=1
 ·rw[zT h1,if_pos h1,zC,hp,zc,h1]
 ·rw[zF h1,if_neg h1,zD,hp,zc]
def ql(p q:aX)(n d:Int)(it:Item):fe×Int:=match it.2 with
 |some b=>xv p q n it.1 d b
 |none=>((it.1,4,bs [],d,()),d)
def b8(p q:aX)(n:Int):Int->List Item->List fe×Int
 |d,[]=>([],d)
 |d,it::r=>((ql p q n d it).1::(b8 p q n (ql p q n d it).2 r).1,(b8 p q n (ql p q n d it).2 r).2)
theorem z9j(p q:aX)(n:Int):∀(a b:List Item) (d:Int),b8 p q n d (a++b)=((b8 p q n d a).1++(b8 p q n (b8 p q n d a).2 b).1,(b8 p q n (b8 p q n d a).2 b).2)
 | [],b,d=>rfl
 |it::a,b,d=>by
  rw[List.cons_append,b8,b8,z9j p q n a b]
  rfl
theorem FP(p q:aX)(n:Int):∀(a:List Item) (d:Int),(b8 p q n d a).1.length=a.length
 | [],d=>rfl
 |it::a,d=>by rw[b8,List.length_cons,List.length_cons,FP p q n a]
def Fc(n:Int)(a:List Int):List (Option ByteArray):=(bm n a).2.2.map some++if(bm n a).1=true then [none] else []
def gU(n:Int)(a b:List Int):List (Option ByteArray):=(Fc n (a++b)).drop (Fc n a).length
theorem zdt(n:Int)(a b:List Int):Fc n (a++b)=Fc n a++((b.foldl (aW n) ((bm n a).1,(bm n a).2.1,[])).2.2.map some++if decide ((bm n (a++b)).1=true/\(bm n a).1=false)=true then [none] else []):=by
 unfold Fc
 have wX:=zoi n a b
 cases hd:(bm n a).1 with
 |true=>
  rw[hd,O1] at wX
  rw[O1,wX]
  simp
 |false=>
  rw[hd] at wX
  have e1:(bm n (a++b)).2.2=(bm n a).2.2++(b.foldl (aW n) (false,(bm n a).2.1,[])).2.2:=by rw[wX]
  rw[e1]
  simp
theorem CU(n:Int)(a b:List Int):gU n a b=(b.foldl (aW n) ((bm n a).1,(bm n a).2.1,[])).2.2.map some++if decide ((bm n (a++b)).1=true/\(bm n a).1=false)=true then [none] else []:=by
 unfold gU
 rw[zdt,List.drop_left]
theorem zdm(n:Int)(a b:List Int):Fc n (a++b)=Fc n a++gU n a b:=by rw[CU,<-zdt]
theorem ach(n:Int)(a b c:List Int):gU n a (b++c)=gU n a b++gU n (a++b) c:=by
 have h1:=zdm n a (b++c)
 have h2:=zdm n (a++b) c
 rw[<-List.append_assoc,h2,zdm n a b,List.append_assoc] at h1
 exact(List.append_cancel_left h1).symm
theorem ajR(n:Int)(a:List Int):gU n a []=[]:=by unfold gU;rw[List.append_nil,List.drop_length]
theorem MC(n:Int)(a b:List Int):(gU n a b).length<=b.length+1:=by
 rw[CU]
 have:=(Su n b ((bm n a).1,(bm n a).2.1,[])).2
 rw[List.length_append,List.length_map]
 split
 ·simp at this⊢;omega
 ·simp at this⊢;omega
def tF(k:Int)(i:Int)(x:ByteArray)(s:List fe×Gw)(K:List fe×Gw->Option (List fe×Bool×Gw×Ev)):Option (List fe×Bool×Gw×Ev):=
 (Fl s.2 k x).bind fun r4=>(bif(decide ((s.1.length+(List.length ([r4.1]:List fe)))*40<=140737488355328)) then K (s.1++([r4.1]:List fe),r4.2) else none)
theorem z173(p q:aX)(n k:Int)(h:cO p q)(m:Option Fr×Option Fr)(b:Bool)(e:Ev):∀(l:List ByteArray) (i:Int) (s:List fe) (d:Int),(∀x∈l,x.size<=1099511627776)->s.length+l.length<=3000000000000->
 bj (tF k) (fun s=>some (s.1,b,s.2,e)) l i (s,(([p,q],n,()),m,d))=some (s++(b8 p q n d (l.map fun x=>(k,some x))).1,b,(([p,q],n,()),m,(b8 p q n d (l.map fun x=>(k,some x))).2),e)
 | [],i,s,d,_,_=>by rw[List.map_nil,b8,List.append_nil];rfl
 |x::l,i,s,d,hb,hl=>by
  simp only[List.length_cons] at hl
  rw[bj,tF,adf p q n k d x m h (hb x (by simp)),zc,zT (by simp only[List.length_cons,List.length_nil];omega),zC,
   z173 p q n k h m b e l (i+1) _ _ (fun y hy=>hb y (by simp [hy])) (by simp;omega),List.map_cons,b8,List.append_assoc]
  rfl
theorem J1(k:Int):Bp k=some (decide (k=0\/k=1)):=by
 unfold Bp W4
 by_cases h:k=0
 ·simp [h]
 ·simp [h]
def dM(n:Int)(xy:ByteArray×ByteArray)(e:Ev):List Item×(ByteArray×ByteArray):=
 if e.1=0 then((gU n (bl xy.1) (bl e.2.1)).map fun i=>((0:Int),i),(xy.1++e.2.1,xy.2))
 else if e.1=1 then((gU n (bl xy.2) (bl e.2.1)).map fun i=>((1:Int),i),(xy.1,xy.2++e.2.1))
 else([],xy)
theorem adj(m:Int)(l:List Int):∀(st:Bool×List Int×List ByteArray),∀x∈(l.foldl (aW m) st).2.2,x∈st.2.2\/x.size<=st.2.1.length+l.length:=by
 induction l with
 |nil=>intro st x hx;exact .inl hx
 |cons c r ih=>
  intro st x hx
  have h:(aW m st c).2.1.length<=st.2.1.length+1/\∀y∈(aW m st c).2.2,y∈st.2.2\/y.size<=st.2.1.length+1:=by
   unfold aW
   split
   ·exact⟨by omega,fun y hy=> .inl hy⟩
   ·split
    ·exact⟨by simp,fun y hy=> .inl hy⟩
    ·split
     ·refine⟨by simp,fun y hy=> ?_⟩
      rcases List.mem_append.1 hy with hy|hy
      ·exact .inl hy
      ·right
       have:y=strOf ((st.2.1++ [c]).drop 2):=by simpa using hy
       rw[this,vk,List.length_drop,List.length_append,List.length_cons,List.length_nil]
       omega
     ·exact⟨by simp,fun y hy=> .inl hy⟩
  rcases ih (aW m st c) x hx with h1|h1
  ·rcases h.2 x h1 with h2|h2
   ·exact .inl h2
   ·right;simp;omega
  ·right;have:=h.1;simp;omega
theorem K9(p q:aX)(n k:Int)(h:cO p q)(a c:ByteArray)(m:Option Fr×Option Fr)(d:Int)(hs:a.size+c.size<=1000000000000)(F:List fe×Bool×Gw×Ev->Option (List fe×Gw)):
 ((Bm (dD n (bl a)) c).bind fun r3=>(Gu ag ([]:List fe) r3.2.1 r3.1 ((List.length r3.1):Int) (0:Int) (([p,q],n,()),((fG k.toNat (some r3.2.2) m),d)) (k,c,())).bind F)=
   F ((b8 p q n d (((bl c).foldl (aW n) ((bm n (bl a)).1,(bm n (bl a)).2.1,[])).2.2.map fun x=>(k,some x))).1,decide ((bm n (bl a++bl c)).1=true/\(bm n (bl a)).1=false),(([p,q],n,()),fG k.toNat (some (dD n (bl (a++c)))) m,(b8 p q n d (((bl c).foldl (aW n) ((bm n (bl a)).1,(bm n (bl a)).2.1,[])).2.2.map fun x=>(k,some x))).2),(k,c,())):=by
 have hla:=zg a
 have hlc:=zg c
 rw[abF n (bl a) c (fun x hx=>mh hx) (by omega),zc]
 dsimp only
 generalize hl:((bl c).foldl (aW n) ((bm n (bl a)).1,(bm n (bl a)).2.1,[])).2.2=l
 have hlen:l.length<=c.size:=by
  have:=(Su n (bl c) ((bm n (bl a)).1,(bm n (bl a)).2.1,[])).2
  rw[hl] at this
  simp only[List.length_nil] at this;omega
 have dx:∀x∈l,x.size<=1099511627776:=fun x hx=>by
  rw[<-hl] at hx
  have h1:=(MK n (bl a)).1
  rcases adj n (bl c) _ x hx with h2|h2
  ·cases h2
  ·simp only at h2;omega
 have:=cu (bs []) l (by rw[zh];omega) (tF k) (fun s=>some (s.1,decide ((bm n (bl a++bl c)).1=true/\(bm n (bl a)).1=false),s.2,(k,c,())))
  (fun j i s=>Gu j s.1 (decide ((bm n (bl a++bl c)).1=true/\(bm n (bl a)).1=false)) l (l.length:Int) i s.2 (k,c,())) (fun j i s=>rfl) ([],(([p,q],n,()),(fG k.toNat (some (dD n (bl a++bl c))) m,d)))
 refine(congrArg (fun o=>Option.bind o F) (this.trans (z173 p q n k h _ _ _ l 0 [] d dx (by simp;omega)))).trans ?_
 rw[zc,List.nil_append,rX]
theorem adE(p q:aX)(n d:Int)(h:cO p q)(x y:ByteArray)(e:Ev)(hs:x.size+y.size+e.2.1.size<=1000000000000):
 Fk (gw ([p,q],n,()) n x y d) e=some ((b8 p q n d (dM n (x,y) e).1).1,gw ([p,q],n,()) n (dM n (x,y) e).2.1 (dM n (x,y) e).2.2 (b8 p q n d (dM n (x,y) e).1).2):=by
 obtain⟨k,c,u⟩:=e
 cases u
 dsimp only at hs
 unfold Fk WW
 rw[J1,zc]
 have fin:∀(a:ByteArray) (m:Option Fr×Option Fr),a.size+c.size<=1000000000000->k=0\/k=1->
  Qn (b8 p q n d (((bl c).foldl (aW n) ((bm n (bl a)).1,(bm n (bl a)).2.1,[])).2.2.map fun x=>(k,some x))).1 (decide ((bm n (bl a++bl c)).1=true/\(bm n (bl a)).1=false)) (([p,q],n,()),m,(b8 p q n d (((bl c).foldl (aW n) ((bm n (bl a)).1,(bm n (bl a)).2.1,[])).2.2.map fun x=>(k,some x))).2) (k,c,()) (fun a0 a1=>some (a0,a1))=
  some ((b8 p q n d ((gU n (bl a) (bl c)).map fun i=>(k,i))).1,(([p,q],n,()),m,(b8 p q n d ((gU n (bl a) (bl c)).map fun i=>(k,i))).2)):=fun a m hs hk=>by
  have hlc:=zg c
  have hlen:=(Su n (bl c) ((bm n (bl a)).1,(bm n (bl a)).2.1,[])).2
  rw[CU,List.map_append,List.map_map,z9j]
  unfold Qn
  generalize hl:((bl c).foldl (aW n) ((bm n (bl a)).1,(bm n (bl a)).2.1,[])).2.2=l at hlen⊢
  simp only[List.length_nil] at hlen
  have e1:((fun i=>(k,i))∘some:ByteArray->Item)=fun x=>(k,some x):=rfl
  rw[e1]
  cases decide ((bm n (bl a++bl c)).1=true/\(bm n (bl a)).1=false) with
  |false=>
   rw[zD,if_neg (by simp)]
   simp [b8]
  |true=>
   rw[zC,if_pos rfl,FP,List.length_map,zT (by simp only[List.length_cons,List.length_nil];omega),zC]
   simp [b8,ql]
 by_cases h0:k=0
 ·subst h0
  rw[zT (.inl rfl),Bool.not_true,zD]
  dsimp only
  rw[uK]
  show(getM (0:Int).toNat (some (dD n (bl x)),some (dD n (bl y)))).bind _=_
  rw[show getM (0:Int).toNat (some (dD n (bl x)),some (dD n (bl y)))=some (dD n (bl x)) from rfl,zc]
  refine(K9 p q n 0 h x c (some (dD n (bl x)),some (dD n (bl y))) d (by omega) _).trans ?_
  dsimp only
  rw[fin x _ (by omega) (.inl rfl)]
  rfl
 by_cases h1:k=1
 ·subst h1
  rw[zT (.inr rfl),Bool.not_true,zD]
  dsimp only
  rw[uL]
  show(getM (1:Int).toNat (some (dD n (bl x)),some (dD n (bl y)))).bind _=_
  rw[show getM (1:Int).toNat (some (dD n (bl x)),some (dD n (bl y)))=some (dD n (bl y)) from rfl,zc]
  refine(K9 p q n 1 h y c (some (dD n (bl x)),some (dD n (bl y))) d (by omega) _).trans ?_
  dsimp only
  rw[fin y _ (by omega) (.inr rfl)]
  rfl
 ·rw[zF (fun e=>e.elim h0 h1),Bool.not_false,zC]
  unfold dM
  rw[if_neg h0,if_neg h1]
  rfl
def si(l:List Ev):Nat:=(l.map fun e=>e.2.1.size).sum
theorem OO(e:Ev)(l:List Ev):si (e::l)=e.2.1.size+si l:=by simp [si]
theorem Lx(n:Int)(x y:ByteArray)(e:Ev):(dM n (x,y) e).2.1.size+(dM n (x,y) e).2.2.size<=x.size+y.size+e.2.1.size/\(dM n (x,y) e).1.length<=e.2.1.size+1:=by
 unfold dM
 split
 ·have:=MC n (bl x) (bl e.2.1)
  rw[zg] at this
  exact⟨by simp [ByteArray.size_append];omega,by simpa using this⟩
 ·split
  ·have:=MC n (bl y) (bl e.2.1)
   rw[zg] at this
   exact⟨by simp [ByteArray.size_append];omega,by simpa using this⟩
  ·exact⟨by simp,by simp⟩
def dk(n:Int):ByteArray×ByteArray->List Ev->List Item×(ByteArray×ByteArray)
 |xy,[]=>([],xy)
 |xy,e::r=>((dM n xy e).1++(dk n (dM n xy e).2 r).1,(dk n (dM n xy e).2 r).2)
theorem Lq(n:Int):∀(l:List Ev) (x y:ByteArray),(dk n (x,y) l).2.1.size+(dk n (x,y) l).2.2.size<=x.size+y.size+si l/\(dk n (x,y) l).1.length<=l.length+si l
 | [],x,y=>⟨by simp [dk],by simp [dk]⟩
 |e::l,x,y=>by
  have h1:=Lx n x y e
  have h2:=Lq n l (dM n (x,y) e).2.1 (dM n (x,y) e).2.2
  rw[dk,OO,List.length_cons]
  dsimp only
  rw[List.length_append]
  have e2:((dM n (x,y) e).2.1,(dM n (x,y) e).2.2)=(dM n (x,y) e).2:=rfl
  rw[e2] at h2
  exact⟨by omega,by omega⟩
def Cu(i:Int)(e:Ev)(s:List fe×Gw)(K:List fe×Gw->Option (List fe×Gw)):Option (List fe×Gw):=
 (Fk s.2 e).bind fun r1=>(bif(decide ((s.1.length+r1.1.length)*40<=140737488355328)) then K (s.1++r1.1,r1.2) else none)
section
variable (p q:aX) (n:Int) (h:cO p q)
include h
theorem NW:∀(l:List Ev) (i:Int) (s:List fe) (x y:ByteArray) (d:Int),x.size+y.size+si l<=1000000000000->s.length+l.length+si l<=3000000000000->
 bj Cu (fun s=>some s) l i (s,gw ([p,q],n,()) n x y d)=some (s++(b8 p q n d (dk n (x,y) l).1).1,gw ([p,q],n,()) n (dk n (x,y) l).2.1 (dk n (x,y) l).2.2 (b8 p q n d (dk n (x,y) l).1).2)
 | [],i,s,x,y,d,_,_=>by rw[dk,b8,List.append_nil];rfl
 |e::l,i,s,x,y,d,h1,h2=>by
  rw[OO] at h1 h2
  rw[List.length_cons] at h2
  have hz:=Lx n x y e
  rw[bj,Cu,adE p q n d h x y e (by omega),zc,FP,zT (by dsimp only;omega),zC,
   NW l (i+1) _ _ _ _ (by omega) (by dsimp only;rw[List.length_append,FP];omega),dk,z9j,List.append_assoc]
theorem zpu(x y:ByteArray)(d:Int)(l:List Ev)(hs:x.size+y.size+si l<=1000000000000)(hl:l.length<=1000000000000):
 vP (gw ([p,q],n,()) n x y d) l=some ((b8 p q n d (dk n (x,y) l).1).1,gw ([p,q],n,()) n (dk n (x,y) l).2.1 (dk n (x,y) l).2.2 (b8 p q n d (dk n (x,y) l).1).2):=by
 unfold vP WY
 dsimp only
 have:=cu ((0:Int),bs [],()) l (by rw[zh];omega) Cu (fun s=>some s) (fun k i s=>Qo k s.1 l (l.length:Int) i s.2) (fun k i s=>rfl) ([],gw ([p,q],n,()) n x y d)
 refine(congrArg (fun o=>Option.bind o _) (this.trans (NW p q n h l 0 [] x y d hs (by simp;omega)))).trans ?_
 rw[zc,List.nil_append]
 rfl
end
theorem Vo:gH=some true:=by kernel_rfl
def XK(most:Int)(i:Int)(x:Ev)(s:Int)(K:Int->Option (Sum zO (Int×Int))):Option (Sum zO (Int×Int)):=
 bif(decide (most<s)) then some (.inl (most,true,s)) else(bif(decide (most<(x.2.1.size:Int))) then some (.inl (most,true,s)) else K (zW zI (s+(x.2.1.size:Int))))
theorem Lh(most:Int)(h0:0<=most)(h1:most<=1000000):∀(l:List Ev) (i:Int) (s:Nat),∃r,bj (XK most) (fun s=>some (.inr (most,s))) l i (s:Int)=some r/\(∀z,r= .inl z->z.2.1=true)/\∀z,r= .inr z->z=(most,((s+si l:Nat):Int))
 | [],i,s=>⟨_,rfl,fun z hz=>(by cases hz),fun z hz=>(by cases hz;rfl)⟩
 |x::l,i,s=>by
  rw[bj,XK,OO]
  by_cases h2:most<(s:Int)
  ·rw[zT h2]
   exact⟨_,rfl,fun z hz=>(by cases hz;rfl),fun z hz=>(by cases hz)⟩
  rw[zF h2,zD]
  by_cases h3:most<(x.2.1.size:Int)
  ·rw[zT h3]
   exact⟨_,rfl,fun z hz=>(by cases hz;rfl),fun z hz=>(by cases hz)⟩
  rw[zF h3,zD,zk (by omega) (by omega),show(s:Int)+(x.2.1.size:Int)=((s+x.2.1.size:Nat):Int) by omega]
  obtain⟨r,e1,e2,e3⟩:=Lh most h0 h1 l (i+1) (s+x.2.1.size)
  exact⟨r,e1,e2,fun z hz=>by rw[e3 z hz,Nat.add_assoc]⟩
theorem amf(l:List Ev)(most:Int)(h0:0<=most)(h1:most<=1000000)(hl:l.length<=maxLen):∃b,mC l most=some b/\(b=false->((l.length+si l:Nat):Int)<=most):=by
 unfold mC PA
 dsimp only
 have:=ng ((0:Int),bs [],()) l hl (XK most) (fun s=>some (.inr (most,s))) (fun k i s=>Pz k l most s i)
  (fun k i s hi tO=>by
    show EK l most s i _ _ _=_
    unfold EK XK
    rw[zT tO,zC,zm hi tO,zm hi tO])
  (fun k s=>by
    show EK l most s _ _ _ _=_
    unfold EK
    rw[zF (by omega)];rfl) (l.length:Int)
 obtain⟨r,e1,e2,e3⟩:=Lh most h0 h1 l 0 l.length
 rw[this,e1,zc]
 rcases r with z|z
 ·refine⟨z.2.1,rfl,fun hb=> ?_⟩
  rw[e2 z rfl] at hb
  cases hb
 ·rw[e3 z rfl]
  refine⟨_,rfl,fun hb=> ?_⟩
  have:=of_decide_eq_false hb
  omega
theorem NL(p q:aX)(n:Int){g b:Bool}(hg:nQ ([p,q],n,())=some g)(fx:g=false->cO p q){l:List Ev}{most:Int}(hb:mC l most=some b):
 tg ([p,q],n,()) l most=some (bif g||b|| !decide ((gu p q n).1=0) then .inl () else .inr (true,gw ([p,q],n,()) n (bs []) (bs []) 0)):=by
 unfold tg Xd
 rw[hg,zc]
 cases g with
 |true=>rfl
 |false=>
  have h:=fx rfl
  rw[zD,hb,zc]
  cases b with
  |true=>rfl
  |false=>
   rw[zD,acD p q n h,zc]
   by_cases h0:(gu p q n).1=0
   case neg=>rw[zF h0];rfl
   rw[zT h0,Bool.not_true,zD,adC p q n h,zc,ahg p q n h,zc,if_pos h0]
   rfl
end bn

namespace bn
open Go.IntKind renaming wrap->zW,i64->zI,u8->zU
open Go Go.Ref
section
variable (p q:aX) (n:Int) (h:cO p q) (hc:(gu p q n).1=0)
include h hc
omit h hc in
end
end bn

namespace bn
open Go.IntKind renaming wrap->zW,i64->zI,u8->zU
open Go Go.Ref
theorem z117(a b:List fe)(h:a.length<=maxLen):mD a b=some (decide (a=b)):=by
 unfold mD TD
 by_cases hl:a.length=b.length
 ·rw[zT (by omega)]
  simp only[Bool.not_true,zD]
  rw[agD ((0:Int),(0:Int),bs [],(0:Int),()) (fun x y=>(decide (x.1=y.1))&&((decide (x.2.1=y.2.1))&&((decide (x.2.2.1=y.2.2.1))&&((decide (x.2.2.2.1=y.2.2.2.1))&&true)))) (fun x y=>by
   obtain⟨x1,x2,x3,x4,x5⟩:=x
   obtain⟨y1,y2,y3,y4,y5⟩:=y
   simp) a b hl h (fun k i=>PB k a b i) (fun k i=>rfl)]
  by_cases e:a=b
  ·simp [e,TF]
  ·simp [e,TE]
 ·rw[zF (by omega)]
  have:a≠b:=fun e=>hl (by rw[e])
  simp [this]
theorem ab9:mC [] 0=some false:=by
 obtain⟨k,hk⟩:=GI
 unfold mC PA
 rw[hk]
 rfl
section
variable (p q:aX) (n:Int) (h:cO p q) (hc:(gu p q n).1=0)
include h hc
end
end bn

namespace bn
open Go.IntKind renaming wrap->zW,i64->zI,u8->zU
open Go Go.Ref
def jQ(l:List Ev):List Int:=(l.map fun e=>bl e.2.1).flatten
theorem F2(e:Ev)(l:List Ev):jQ (e::l)=bl e.2.1++jQ l:=by simp [jQ]
theorem zui(a b:List Ev):jQ (a++b)=jQ a++jQ b:=by simp [jQ]
theorem zuj(l:List Ev):(jQ l).length=si l:=by
 induction l with
 |nil=>rfl
 |cons e l ih=>rw[F2,OO,List.length_append,zg,ih]
def uz(k:Int)(xy:ByteArray×ByteArray):ByteArray:=if k=0 then xy.1 else xy.2
theorem P9(n k:Int)(hk:k=0\/k=1):∀(l:List Ev) (xy:ByteArray×ByteArray),(∀e∈l,e.1=k)->
 (dk n xy l).1=(gU n (bl (uz k xy)) (jQ l)).map (fun i=>(k,i))/\bl (uz k (dk n xy l).2)=bl (uz k xy)++jQ l/\uz (1-k) (dk n xy l).2=uz (1-k) xy
 | [],xy,_=>by rw[dk];exact⟨by rw[show jQ []=[] from rfl,ajR];rfl,by rw[show jQ []=[] from rfl,List.append_nil],rfl⟩
 |e::l,xy,he=>by
  obtain⟨h1,h2,h3⟩:=P9 n k hk l (dM n xy e).2 (fun x hx=>he x (by simp [hx]))
  have e1:=he e (by simp)
  have hn:(dM n xy e).1=(gU n (bl (uz k xy)) (bl e.2.1)).map (fun i=>(k,i))/\bl (uz k (dM n xy e).2)=bl (uz k xy)++bl e.2.1/\uz (1-k) (dM n xy e).2=uz (1-k) xy:=by
   unfold dM uz
   rcases hk with rfl|rfl
   ·rw[if_pos e1];simp [rX]
   ·rw[if_neg (by omega),if_pos e1];simp [rX]
  rw[dk,h1,h2,h3,hn.1,hn.2.1,hn.2.2,F2,ach,List.map_append,List.append_assoc]
  exact⟨rfl,rfl,rfl⟩
theorem zqe(n k:Int)(h0:¬k=0)(h1:¬k=1):∀(l:List Ev) (xy:ByteArray×ByteArray),(∀e∈l,e.1=k)->dk n xy l=([],xy)
 | [],xy,_=>rfl
 |e::l,xy,he=>by
  have e1:=he e (by simp)
  have hn:dM n xy e=([],xy):=by unfold dM;rw[if_neg (by omega),if_neg (by omega)]
  rw[dk,hn,zqe n k h0 h1 l xy (fun x hx=>he x (by simp [hx]))]
  rfl
theorem Mv(n k:Int)(xy:ByteArray×ByteArray)(a b:List Ev)(ha:∀e∈a,e.1=k)(hb:∀e∈b,e.1=k)(h:jQ a=jQ b):(dk n xy a).1=(dk n xy b).1:=by
 by_cases h0:k=0
 ·rw[(P9 n k (.inl h0) a xy ha).1,(P9 n k (.inl h0) b xy hb).1,h]
 by_cases h1:k=1
 ·rw[(P9 n k (.inr h1) a xy ha).1,(P9 n k (.inr h1) b xy hb).1,h]
 ·rw[zqe n k h0 h1 a xy ha,zqe n k h0 h1 b xy hb]
theorem aj0(link:Int)(ch:List ByteArray)(t7:List Ev)(s:ByteArray)(hs:s.size<=1000000)(t22:List ByteArray)(t23 t24:Int)(c:EX):∀(m j k:Nat) (t8:List Ev),j+m=s.size->m<k->t8.length+2*m<=10000000->(∀e∈t8,e.1=link)->
 ∃ri,E7 k link ch t7 t8 s t22 t23 t24 (s.size:Int) (j:Int) c=some (link,ch,t7,ri,t22,t23,t24,c)/\(∀e∈ri,e.1=link)/\jQ ri=jQ t8++(bl s).drop j/\ri.length=t8.length+2*m:=by
 intro m
 induction m with
 |zero=>
  intro j k t8 hj hk hl h8
  obtain⟨k,rfl⟩:∃k',k=k'+1:=⟨k-1,by omega⟩
  exact⟨t8,by rw[E7,Qr,zF (by omega)];rfl,h8,by rw[List.drop_eq_nil_of_le (by rw[zg];omega),List.append_nil],rfl⟩
 |succ m ih=>
  intro j k t8 hj hk hl h8
  obtain⟨k,rfl⟩:∃k',k=k'+1:=⟨k-1,by omega⟩
  have aq:j<(bl s).length:=by rw[zg];omega
  have hx:bl (s.extract ((j:Int)).toNat (((j+1:Nat):Int)).toNat)=[(bl s)[j]]:=by
   rw[uO,Int.toNat_natCast,Int.toNat_natCast,List.drop_take,List.drop_eq_getElem_cons aq]
   have:j+1-j=1:=by omega
   rw[this];rfl
  obtain⟨ri,e1,e2,e3,e4⟩:=ih (j+1) k (t8++ [(link,s.extract ((j:Int)).toNat (((j+1:Nat):Int)).toNat,()),(link,bs [],())]) (by omega) (by omega) (by simp;omega) (fun e he=>by
   rcases List.mem_append.1 he with he|he
   ·exact h8 e he
   ·simp at he;rcases he with rfl|rfl<;>rfl)
  refine⟨ri,?_,e2,?_,by rw[e4];simp;omega⟩
  ·rw[E7,Qr,zT (by omega),zC,zr (by omega),zT (by omega),zT (by omega),zT (by omega),zT (by omega),zT (by simp only[List.length_cons,List.length_nil];omega)]
   exact e1
  ·rw[e3,zui,F2,F2,hx,List.append_assoc]
   congr 1
   rw[List.drop_eq_getElem_cons aq]
   rfl
theorem agq(link:Int)(ch:List ByteArray)(c:EX)(l:List ByteArray)(hl:l.length<=1000000):∀(m j k:Nat) (t7 t8:List Ev),j+m=l.length->m<k->t7.length+m<=1000000->t8.length+2*sizes (l.drop j)<=1000000->(∀e∈t7,e.1=link)->(∀e∈t8,e.1=link)->
 ∃FN ri,z91 k link ch t7 t8 l (l.length:Int) (j:Int) c=some (link,ch,FN,ri,c)/\(∀e∈FN,e.1=link)/\(∀e∈ri,e.1=link)/\jQ FN=jQ t7++((l.drop j).map bl).flatten/\jQ ri=jQ t8++((l.drop j).map bl).flatten/\FN.length<=1000000/\ri.length<=1000000:=by
 intro m
 induction m with
 |zero=>
  intro j k t7 t8 hj hk h7 h8 o7 o8
  obtain⟨k,rfl⟩:∃k',k=k'+1:=⟨k-1,by omega⟩
  exact⟨t7,t8,by rw[z91,Qq,zF (by omega)];rfl,o7,o8,by rw[List.drop_eq_nil_of_le (by omega)];simp,by rw[List.drop_eq_nil_of_le (by omega)];simp,by omega,by omega⟩
 |succ m ih=>
  intro j k t7 t8 hj hk h7 h8 o7 o8
  obtain⟨k,rfl⟩:∃k',k=k'+1:=⟨k-1,by omega⟩
  have aq:j<l.length:=by omega
  have hd:=List.drop_eq_getElem_cons aq
  rw[hd] at h8
  simp only[sizes,List.map_cons,List.sum_cons] at h8
  obtain⟨u8,i1,i2,i3,i4⟩:=aj0 link ch (t7++ [(link,l[j],())]) l[j] (by omega) l (l.length:Int) (j:Int) c l[j].size 0 ag t8 (by omega) (by rw[zq];omega) (by omega) o8
  obtain⟨FN,ri,e1,e2,e3,e4,e5,e6,e7⟩:=ih (j+1) k (t7++ [(link,l[j],())]) u8 (by omega) (by omega) (by simp;omega) (by rw[i4];simp only[sizes];omega) (fun e he=>by
   rcases List.mem_append.1 he with he|he
   ·exact o7 e he
   ·simp at he;rw[he]) i2
  refine⟨FN,ri,?_,e2,e3,?_,?_,e6,e7⟩
  ·rw[z91,Qq,zT (by omega),zC,zi aq,Ld aq,zT (by simp only[List.length_cons,List.length_nil];omega),zC]
   rw[show(0:Int)=((0:Nat):Int) from rfl,i1,zc]
   unfold Xc
   dsimp only
   rw[zr (by omega)]
   exact e1
  ·rw[e4,zui,F2,show jQ []=[] from rfl,List.append_nil,List.append_assoc,hd,List.map_cons,List.flatten_cons]
  ·rw[e5,i3,List.drop_zero,List.append_assoc,hd,List.map_cons,List.flatten_cons]
theorem iv(c:EX)(link:Int)(l:List ByteArray)(hc:Wf C3 c)(hk:Wf (.int .i64) link)(hl:Wf (.sl 0 .str) l):Hy c link l=some true:=by
 obtain⟨p,q,n,rfl,g,hg,fx⟩:=alV hc
 obtain⟨b,hb,hs⟩:=ame l 2500 (by omega) (by omega) (L3 hl)
 unfold Hy Xa
 rw[hb,zc]
 cases b with
 |true=>rw[zC,Vo,zc]
 |false=>
 have hs:=hs rfl
 rw[zD]
 obtain⟨t7,t8,e1,e2,e3,e4,e5,e6,e7⟩:=agq link l ([p,q],n,()) l (by omega) l.length 0 ag [] [] (by omega) (by rw[zq];omega) (by simp;omega) (by rw[List.drop_zero];simp;omega) (fun e he=>by cases he) (fun e he=>by cases he)
 rw[show((0:Nat):Int)=0 from rfl] at e1
 dsimp only
 rw[e1,zc]
 rw[List.drop_zero,show jQ []=[] from rfl,List.nil_append] at e4 e5
 unfold Xb
 dsimp only
 obtain⟨b7,hb7,hs7⟩:=amf t7 9999 (by omega) (by omega) (by rw[zh];omega)
 rw[NL p q n hg fx hb7,NL p q n hg fx ab9,zc]
 cases g with
 |true=>simp only[Bool.true_or,zC,Sum.elim_inl,Vo,zc,Bool.not_true,zD]
 |false=>
 have h:=fx rfl
 by_cases h0:(gu p q n).1=0
 case neg=>simp only[zF h0,Bool.or_false,Bool.not_false,Bool.or_true,zC,Sum.elim_inl,Vo,zc,Bool.not_true,zD]
 simp only[zT h0,Bool.or_false,Bool.not_true,Bool.false_or,zD,Vo,zc,Sum.elim_inr]
 cases b7 with
 |true=>simp only[zC,Sum.elim_inl]
 |false=>
 have hs7:=hs7 rfl
 simp only[zD,Sum.elim_inr]
 have hz:(bs []).size=0:=rfl
 have z7:=zuj t7
 have z8:=zuj t8
 rw[e4] at z7
 rw[e5,z7] at z8
 have hj:=ac7 l
 rw[zpu p q n h (bs []) (bs []) 0 t7 (by omega) (by omega),zc,zpu p q n h (bs []) (bs []) 0 t8 (by omega) (by omega),zc,
  Mv n link (bs [],bs []) t7 t8 e2 e3 (by rw[e4,e5])]
 have hi:=Lq n t8 (bs []) (bs [])
 rw[z117 _ _ (by dsimp only;rw[FP,zh];omega),zc,zT rfl,zC,aks l (by have:=L3 hl;exact this) (by omega),zc,
  zpu p q n h (bs []) (bs []) 0 [(link,lg l,())] (by rw[OO];dsimp only;rw[show si []=0 from rfl];omega) (by simp),zc,
  Mv n link (bs [],bs []) [(link,lg l,())] t8 (fun e he=>by simp at he;rw[he]) e3 (by rw[e5,F2,show jQ []=[] from rfl,List.append_nil,Ma])]
 rw[z117 _ _ (by dsimp only;rw[FP,zh];omega),zc,zT rfl]
 rfl
end bn

namespace Go.Proofs.YtpjkbbihjoflnaaGreatDoor
noncomputable section
open Go Go.Ref bn
abbrev y0:Go.Ref.Ty:=(.pair .bool (.pair (.sl 5 (.int .u8)) .unit))
abbrev y1:Go.Ref.Ty:=(.pair (.sl 109 (.pair .str (.pair .str .unit))) .unit)
abbrev y2:Go.Ref.Ty:=(.pair (.int .i64) (.pair .str (.pair (.int .i64) .unit)))
abbrev y3:Go.Ref.Ty:=(.pair (.sl 107 (.pair (.int .i64) (.pair .str .unit))) .unit)
abbrev y4:Go.Ref.Ty:=(.pair (.sl 208 (.pair (.int .i64) (.pair .str .unit))) .unit)
abbrev y5:Go.Ref.Ty:=(.pair (.int .i64) (.pair (.int .i64) (.pair (.int .i64) .unit)))
abbrev y6:Go.Ref.Ty:=(.pair (.int .i64) y0)
abbrev y7:Go.Ref.Ty:=(.pair .str y1)
abbrev y8:Go.Ref.Ty:=(.pair .str y4)
abbrev y9:Go.Ref.Ty:=(.pair (.int .i64) y2)
abbrev y10:Go.Ref.Ty:=(.pair (.int .i64) y5)
abbrev y11:Go.Ref.Ty:=(.pair (.int .i64) y7)
abbrev y12:Go.Ref.Ty:=(.pair (.sl 3 (.int .i64)) y3)
abbrev cJ:Go.Ref.Ty:=(.pair (.int .i64) y10)
abbrev y14:Go.Ref.Ty:=(.pair (.int .i64) y11)
abbrev cA:Go.Ref.Ty:=(.pair (.int .i64) y14)
abbrev y16:Go.Ref.Ty:=(.pair (.sl 127 cJ) .unit)
abbrev y17:Go.Ref.Ty:=(.pair (.int .i64) y16)
abbrev y18:Go.Ref.Ty:=(.pair (.sl 102 cA) .unit)
abbrev aK:Go.Ref.Ty:=(.pair (.int .i64) y17)
abbrev cD:Go.Ref.Ty:=(.pair (.sl 109 (.pair .str (.pair .str .unit))) y18)
abbrev y21:Go.Ref.Ty:=(.pair cD y12)
abbrev cw:Go.Ref.Ty:=(.pair aK y21)
abbrev bM:Go.Ref.Ty:=(.pair (.arr 2 cw) (.pair (.int .i64) .unit))
def FO:List (Option Ty):=[none,none,some (.int .i64),some (.int .i64),some .bool,some (.int .u8),some (.int .u8),some (.pair (.int .i64) (.pair (.int .i64) (.pair .bool (.pair (.int .u8) .unit)))),some (.pair (.int .i64) (.pair (.int .i64) (.pair .bool (.pair (.int .u8) .unit)))),some .str,some .str,some .str,some (.int .u64),none,none,none,none,none,none,none,none,some (.int .i32),some (.sl 127 cJ),some aK,some aK,some (.sl 109 (.pair .str (.pair .str .unit))),some (.sl 102 cA),some cD,some cD,some (.sl 3 (.int .i64)),some (.sl 107 (.pair (.int .i64) (.pair .str .unit))),some cw,some cw,some (.arr 2 cw),some bM,some bM,none,none,none,some (.int .i64),none,none,none,none,none,none,some (.sl 57 (.pair (.int .i64) (.pair .str .unit))),none,none,none,none,some (.arr 2 .str),some (.arr 2 (.int .i64)),some (.arr 2 .bool),some (.pair (.arr 2 .str) (.pair (.arr 2 (.int .i64)) (.pair (.arr 2 .bool) (.pair (.int .i64) .unit)))),some (.pair (.arr 2 .str) (.pair (.arr 2 (.int .i64)) (.pair (.arr 2 .bool) (.pair (.int .i64) .unit)))),some (.pair (.int .i64) (.pair .str .unit)),some (.pair (.int .i64) (.pair .str .unit)),none,some (.sl 71 y9),none,none,none,none,none,none,some (.sl 9 .str),none,none,none,some y9,some y9,none,none,none,none,none,none,none,none,none,none,none,none,none,none,none,none,none,none,none,none,none,none,none,none,none,none,none,some (.sl 5 (.int .u8)),none,some cA,some cA,none,none,none,some (.pair (.int .i64) (.pair .str .unit)),some (.pair (.int .i64) (.pair .str .unit)),some (.pair .str (.pair .str .unit)),some (.pair .str (.pair .str .unit)),none,none,none,some y6,some y6,none,none,none,none,none,none,none,none,none,some (.sl 29 (.sl 3 (.int .i64))),none,some cJ,some cJ,none,none,none,none,none,none,some (.sl 24 aK),none,none,some (.int .u64),some (.pair (.int .u64) (.pair (.int .u64) .unit)),some (.pair (.int .u64) (.pair (.int .u64) .unit)),none,none,none,none,none,none,none,none,none,none,none,none,none,none,some (.int .u64),some (.sl 208 (.pair (.int .i64) (.pair .str .unit))),some y8,some y8,some (.pair (.int .i64) (.pair (.int .i64) .unit)),some (.pair (.int .i64) (.pair (.int .i64) .unit)),none,none,none,none,none,none,none,none,none,none,none,none,none,none,none,none,none,none,none,none,none,none,none,none,none,none,some (.sl 245 (.pair (.int .i64) (.pair .str .unit))),none,none,none,none,none,none,none,none,none,none,none,none,none,none,none,none,none,none,none,none,some (.pair (.int .i64) (.pair .str .unit)),some (.pair (.int .i64) (.pair .str .unit)),none,none,none,none,none,none,none,none,none,none,none,none,none,none,none,none,none,none,none,none,none,none,none,none,none,none,none,none,none,none,none,none,none,none,none,some (.pair (.int .i64) (.pair .str .unit)),some (.pair (.int .i64) (.pair .str .unit)),none,none,none,some (.sl 39 (.int .i64)),none,none,some (.arr 8 (.int .u8)),none,none,none,none,none,none,none,none,none,none,none,none,none,none,none,none,none,none,none,none,none,none,none,none,none,none,none,none,none,none,none,none,none,none,none,none,none,none,some (.arr 256 .bool),some (.arr 256 .bool),none,none,none,none,some (.int .u32),none,none,none,none,none,none,none,none,some (.arr 256 (.int .u8)),some (.pair (.int .u8) (.pair (.int .u8) .unit)),some (.pair (.int .u8) (.pair (.int .u8) .unit)),some (.arr 16 (.pair (.int .u8) (.pair (.int .u8) .unit))),none,none,none,none,none,none,none,none,some (.int .u8),some (.int .u8),none,some (.int .i32),some (.int .i32),none,none]
def Ye:List Nat:=[0,8,8,8,1,1,1,24,24,16,16,16,8,24,24,8,8,8,8,8,16,4,24,40,40,24,24,48,48,24,24,136,136,272,280,280,8,8,8,8,0,8,8,8,8,8,24,0,8,8,8,32,16,2,64,64,24,24,8,24,8,8,8,8,8,8,24,8,8,8,40,40,8,8,8,8,0,8,8,8,8,8,0,8,8,16,304,304,8,0,8,8,0,8,0,8,8,8,8,24,8,64,64,8,8,8,24,24,32,32,8,8,8,40,40,8,8,8,8,0,8,0,8,8,24,8,40,40,0,8,0,8,8,8,24,8,8,8,16,16,8,8,8,8,8,8,8,8,8,8,0,8,8,8,8,24,40,40,16,16,0,8,0,8,8,0,8,8,8,8,8,8,8,8,0,8,0,8,8,8,8,8,0,8,8,8,24,0,8,8,8,8,8,8,8,8,8,32,32,16,16,0,8,8,8,8,8,24,24,8,8,0,8,0,8,8,8,0,8,0,8,0,8,0,8,8,8,8,0,8,8,8,8,0,8,8,8,0,8,8,8,8,8,8,24,24,8,8,8,24,0,8,8,8,8,8,8,0,8,0,8,8,8,8,0,8,0,8,8,0,8,8,8,8,8,8,8,8,8,8,8,8,8,8,8,8,0,8,8,8,8,256,256,0,8,8,8,4,0,8,8,0,8,8,8,8,256,2,2,32,8,8,8,40,40,0,0,0,1,1,8,4,4,48,48]
def AF:List Bool:=[false,false,false,false,false,false,false,false,false,false,false,false,false,false,false,true,true,true,false,false,false,false,false,false,false,false,false,false,false,false,false,false,false,false,false,false,false,false,true,false,false,false,false,false,false,false,false,false,false,false,true,false,false,false,false,false,false,false,false,false,false,false,false,false,false,false,false,false,false,false,false,false,false,false,false,false,false,false,false,false,false,false,false,false,true,false,false,false,false,false,false,false,false,false,false,false,false,false,false,false,false,false,false,false,false,false,false,false,false,false,false,false,false,false,false,false,false,false,false,false,false,false,false,false,false,false,false,false,false,false,false,false,false,false,false,false,false,false,false,false,false,false,false,false,false,false,false,false,false,false,false,false,false,false,false,false,false,false,false,false,false,false,false,false,false,false,false,false,false,false,false,false,false,false,false,false,false,false,false,false,false,false,false,false,false,false,false,false,false,false,false,false,false,false,false,false,true,false,false,false,false,false,false,false,false,false,false,false,false,false,false,false,false,false,false,false,false,false,false,false,false,false,false,false,false,false,false,false,false,false,false,false,false,false,false,false,false,false,false,false,false,false,false,false,false,false,false,false,false,false,false,false,false,false,false,false,true,false,false,false,false,false,false,false,false,false,false,false,false,false,false,false,false,false,false,false,false,false,false,false,false,false,false,false,false,false,false,false,false,false,false,false,false,false,false,false,true,false,false,false,false,false,false,false,false,false,false,false,false,false,false,false,false,false,false,false,false,false,false,false,false,false,false,false,false]
def Ru:List (TypeId×TypeId×TypeId):=[(135,9,4),(277,3,4)]
def b9:pD:=⟨FO,Ye,AF,Ru⟩
theorem XV:b9.ok Tryz.prog=true:=by kernel_rfl
theorem ek:∀a b c d,ap Tryz.prog (b9.env a b c d):=pD.lS XV
abbrev e0(ps:List Ty):Env:=b9.env (fun _=>[]) (fun _=>[]) [] ps
abbrev uS(n:Nat)(l:List (List SV)):List (List SV):=Nat.rec (motive:=fun _=>List (List SV)) l (fun _ r=>[.undef]::r) n
abbrev nS(n:Nat)(l:List (Option bB)):List (Option bB):=Nat.rec (motive:=fun _=>List (Option bB)) l (fun _ r=>none::r) n
def QU:ah:=ah.none
theorem o0:aO Tryz.prog QU:= .none (by kernel_rfl)
variable (R:Type) (kk k:Nat) (K:KF R) (J:KX R)
def VU:Env:=b9.env (fun i=>bif Nat.beq i 3 then [0,1,5,6] else []) (fun i=>bif Nat.beq i 3 then [1,4,5] else []) [] [(.sl 9 .str),(.int .i64)]
def Tu(a:(List ByteArray))(b c d:Int):Option R:=aB (ev VU (QU R) kk (sub [1,1,0,1,0,0] (cd Tryz.f26))) [0,1,5,6] [1,4,5] k ⟨[.aj (.sl 9 .str) a []]::[tI b]::uS 3 ([tI c]::[tI d]::uS 30 []),nS 38 []⟩ J
def zet(a:Int)(b:Bool)(c:Int):State:=⟨uS 1 ([tI a]::uS 2 ([tB b]::[tI c]::uS 31 [])),nS 38 []⟩
def zeu(a b:Int):State:=⟨uS 1 ([tI a]::uS 3 ([tI b]::uS 31 [])),nS 38 []⟩
def zxp:KX R:=(zj 0 (aT VU (QU R) kk (sub [1,1,1] (cd Tryz.f26)) (aS VU Tryz.f26.results.toList none K)))
theorem akP(a:(List ByteArray))(b c d:Int):Tu R kk (k+1) J a b c d=
 Px a b c d (fun a0 a1 a2=>J .ret (zet a0 a1 a2)) (Tu R kk k J) (fun a0 a1=>J (.exit 0) (zeu a0 a1)):=by kernel_rfl
theorem aeh(a:Int)(b:Bool)(c:Int):zxp R kk K .ret (zet a b c)=
 Tv a b c (fun a0=>K [tB a0] none):=by kernel_rfl
theorem aei(a b:Int):zxp R kk K (.exit 0) (zeu a b)=
 Tw a b (fun a0=>K [tB a0] none):=by kernel_rfl
theorem ahK{kk:Nat}(hF:kk=ag)(fh:(List ByteArray))(gT t5 t6:Int):Tu R kk k J fh gT t5 t6=(EI k fh gT t5 t6).bind fun e=>(Sum.elim (fun(we:zO)=>J .ret (zet we.1 we.2.1 we.2.2)) (fun(we:(Int×Int))=>J (.exit 0) (zeu we.1 we.2)) e):=by
 induction k generalizing fh gT t5 t6 with
 |zero=>rfl
 |succ k ih=>
  rw[akP]
  simp only[EI,Px,ih,aE]
def QV:ah:=QU.add 26 [(.sl 9 .str),(.int .i64)] (dv (.sl 9 .str) (.int .i64) vH (fun _ r K=>K [tB r] none))
theorem o1:aO Tryz.prog QV:=dz VU Tryz.f26 (fun R kk x0 x1 K=>zxq x0 x1 (Tu R kk kk (zxp R kk K))) o0 (ek _ _ _ _) Tryz.func26 (by kernel_rfl) rfl (fun _ _ _ _ _ _ h=>h _ _) (fun _ _ _ _ _=>by kernel_rfl) fun R kk e x0 x1 K=>by
 simp only[vH,zxq,Tv,Tw,ahK (hF:=e),aeh,aei,aE,<-e]
def VT:Env:=b9.env (fun i=>bif Nat.beq i 3 then [0,3,4] else []) (fun i=>bif Nat.beq i 3 then [3] else []) [] [(.sl 9 .str)]
def Ts(a:(List ByteArray))(b:aN)(c:Int):Option R:=aB (ev VT (QV R) kk (sub [1,1,0,1,0,0] (cd Tryz.f50))) [0,3,4] [3] k ⟨[.aj (.sl 9 .str) a []]::uS 2 ([.aj (.sl 109 (.pair .str (.pair .str .unit))) b [[]]]::[tI c]::uS 21 []),nS 27 []⟩ J
def zes(a:aN):State:=⟨uS 3 ([.aj (.sl 109 (.pair .str (.pair .str .unit))) a [[]]]::uS 22 []),nS 27 []⟩
def Ng:KX R:=(zj 0 (aT VT (QV R) kk (sub [1,1,1] (cd Tryz.f50)) (aS VT Tryz.f50.results.toList none K)))
theorem akO(a:(List ByteArray))(b:aN)(c:Int):Ts R kk (k+1) J a b c=
 zxn a b c (Ts R kk k J) (fun a0=>J (.exit 0) (zes a0)):=by kernel_rfl
theorem aeg(a:aN):Ng R kk K (.exit 0) (zes a)=
 zxo a (fun a0=>K [.aj (.sl 109 (.pair .str (.pair .str .unit))) a0 []] none):=by kernel_rfl
theorem ahJ{kk:Nat}(hF:kk=ag)(fh:(List ByteArray))(t3:aN)(t4:Int):Ts R kk k J fh t3 t4=(Tt k fh t3 t4).bind fun e=>J (.exit 0) (zes e):=by
 induction k generalizing fh t3 t4 with
 |zero=>rfl
 |succ k ih=>
  rw[akO]
  simp only[Tt,zxn,ih,aE]
def Tb2:ah:=QV.add 50 [(.sl 9 .str)] (cK (.sl 9 .str) sH (fun _ r K=>K [.aj (.sl 109 (.pair .str (.pair .str .unit))) r []] none))
theorem o2:aO Tryz.prog Tb2:=cN VT Tryz.f50 (fun R kk x0 K=>zxm x0 (Ts R kk kk (Ng R kk K))) o1 (ek _ _ _ _) Tryz.func50 (by kernel_rfl) rfl (fun _ _ _ _ _ _ h=>h _ _) (fun _ _ _ _=>by kernel_rfl) fun R kk e x0 K=>by
 simp only[sH,zxm,zxo,ahJ (hF:=e),aeg,aE,<-e]
def HU:Env:=e0 []
def QW:ah:=Tb2.add 66 [] (FJ X6 (fun _ r K=>K [.aj (.sl 3 (.int .i64)) r [[]]] none))
theorem o3:aO Tryz.prog QW:=Kn HU Tryz.f66 (fun R kk K=>DY (fun a0=>K [.aj (.sl 3 (.int .i64)) a0 [[]]] none)) o2 (ek _ _ _ _) Tryz.func66 (by kernel_rfl) rfl (fun _ _ _ _ _ _ h=>h _ _) (fun _ _ _=>by kernel_rfl) fun R kk e K=>by
 simp only[X6,DY,aE]
def VS:Env:={b9.env (fun i=>bif Nat.beq i 4 then [1,2,3] else []) (fun i=>bif Nat.beq i 4 then [1] else []) [] [] with mv:=[31]}
def Tq(a:bQ)(b:(List Int))(c:Int):Option R:=aB (ev VS (QW R) kk (sub [1,1,1,0,1,0,0] (cd Tryz.f48))) [1,2,3] [1] k ⟨uS 1 ([.aj (.sl 102 cA) a [[]]]::[.aj (.sl 3 (.int .i64)) b [[]]]::[tI c]::uS 28 []),nS 33 []⟩ J
def zer(a:bQ):State:=⟨uS 1 ([.aj (.sl 102 cA) a [[]]]::uS 30 []),nS 33 []⟩
def Nf:KX R:=(zj 0 (aT VS (QW R) kk (sub [1,1,1,1] (cd Tryz.f48)) (aS VS Tryz.f48.results.toList none K)))
theorem akN(a:bQ)(b:(List Int))(c:Int):Tq R kk (k+1) J a b c=
 zxk a b c (Tq R kk k J) (fun a0=>J (.exit 0) (zer a0)):=by kernel_rfl
theorem aef(a:bQ):Nf R kk K (.exit 0) (zer a)=
 zxl a (fun a0=>K [.aj (.sl 102 cA) a0 [[]]] none):=by kernel_rfl
theorem ahI{kk:Nat}(hF:kk=ag)(t1:bQ)(t2:(List Int))(t3:Int):Tq R kk k J t1 t2 t3=(Tr k t1 t2 t3).bind fun e=>J (.exit 0) (zer e):=by
 induction k generalizing t1 t2 t3 with
 |zero=>rfl
 |succ k ih=>
  rw[akN]
  simp only[Tr,zxk,ih,aE]
def QX:ah:=QW.add 48 [] (FJ vG (fun _ r K=>K [.aj (.sl 102 cA) r [[]]] none))
theorem o4:aO Tryz.prog QX:=Kn VS Tryz.f48 (fun R kk K=>zxj (Tq R kk kk (Nf R kk K))) o3 ((ek _ _ _ _).mv _) Tryz.func48 (by kernel_rfl) rfl (fun _ _ _ _ _ _ h=>h _ _) (fun _ _ _=>by kernel_rfl) fun R kk e K=>by
 simp only[vG,zxj,zxl,ahI (hF:=e),aef,aE,<-e]
def VH:Env:=b9.env (fun i=>bif Nat.beq i 3 then [0,3,4] else []) (fun i=>bif Nat.beq i 3 then [3] else []) [] [(.sl 109 (.pair .str (.pair .str .unit)))]
def SG(a b:aN)(c:Int):Option R:=aB (ev VH (QX R) kk (sub [1,1,0,1,0,0] (cd Tryz.f51))) [0,3,4] [3] k ⟨[.aj (.sl 109 (.pair .str (.pair .str .unit))) a []]::uS 2 ([.aj (.sl 109 (.pair .str (.pair .str .unit))) b [[]]]::[tI c]::uS 22 []),nS 28 []⟩ J
def ze0(a:aN):State:=⟨uS 3 ([.aj (.sl 109 (.pair .str (.pair .str .unit))) a [[]]]::uS 23 []),nS 28 []⟩
def M1:KX R:=(zj 0 (aT VH (QX R) kk (sub [1,1,1] (cd Tryz.f51)) (aS VH Tryz.f51.results.toList none K)))
theorem akx(a b:aN)(c:Int):SG R kk (k+1) J a b c=
 zw5 a b c (SG R kk k J) (fun a0=>J (.exit 0) (ze0 a0)):=by kernel_rfl
theorem adH(a:aN):M1 R kk K (.exit 0) (ze0 a)=
 zw6 a (fun a0=>K [.aj (.sl 109 (.pair .str (.pair .str .unit))) a0 []] none):=by kernel_rfl
theorem ahi{kk:Nat}(hF:kk=ag)(fh t3:aN)(t4:Int):SG R kk k J fh t3 t4=(SH k fh t3 t4).bind fun e=>J (.exit 0) (ze0 e):=by
 induction k generalizing fh t3 t4 with
 |zero=>rfl
 |succ k ih=>
  rw[akx]
  simp only[SH,zw5,ih,aE]
def Tb5:ah:=QX.add 51 [(.sl 109 (.pair .str (.pair .str .unit)))] (cK (.sl 109 (.pair .str (.pair .str .unit))) ss (fun _ r K=>K [.aj (.sl 109 (.pair .str (.pair .str .unit))) r []] none))
theorem o5:aO Tryz.prog Tb5:=cN VH Tryz.f51 (fun R kk x0 K=>zw4 x0 (SG R kk kk (M1 R kk K))) o4 (ek _ _ _ _) Tryz.func51 (by kernel_rfl) rfl (fun _ _ _ _ _ _ h=>h _ _) (fun _ _ _ _=>by kernel_rfl) fun R kk e x0 K=>by
 simp only[ss,zw4,zw6,ahi (hF:=e),adH,aE,<-e]
def HV:Env:=e0 []
def QY:ah:=Tb5.add 67 [] (FJ X7 (fun _ r K=>K [.aj (.sl 29 (.sl 3 (.int .i64))) r [[]]] none))
theorem o6:aO Tryz.prog QY:=Kn HV Tryz.f67 (fun R kk K=>z162 (fun a0=>K [.aj (.sl 29 (.sl 3 (.int .i64))) a0 [[]]] none)) o5 (ek _ _ _ _) Tryz.func67 (by kernel_rfl) rfl (fun _ _ _ _ _ _ h=>h _ _) (fun _ _ _=>by kernel_rfl) fun R kk e K=>by
 simp only[X7,z162,aE]
def pB:Env:=b9.env (fun i=>bif Nat.beq i 4 then [0,2,3,4,5] else []) (fun i=>bif Nat.beq i 4 then [2,3] else []) [2] [(.int .i64)]
def XF(a:Int)(b:wQ)(c:Int)(d e:af):Option R:=aB (ev pB (QY R) kk (sub [1,1,1,0,1,0,0] (cd Tryz.f52))) [0,2,3,4,5] [2,3] k ⟨[tI a]::uS 1 ([.ptr 3 aK []]::[.ptr 4 aK []]::[.aj (.sl 29 (.sl 3 (.int .i64))) b [[]]]::[tI c]::uS 52 []),nS 3 ((some ⟨aK,d,[[2]]⟩)::(some ⟨aK,e,[[2]]⟩)::nS 54 [])⟩ J
def zpt(a b:af):State:=⟨uS 2 ([.ptr 3 aK []]::[.ptr 4 aK []]::uS 54 []),nS 3 ((some ⟨aK,a,[[2]]⟩)::(some ⟨aK,b,[[2]]⟩)::nS 54 [])⟩
def Oi:KX R:=(zj 0 (aT pB (QY R) kk (sub [1,1,1,1] (cd Tryz.f52)) (aS pB Tryz.f52.results.toList none K)))
theorem anV(a:Int)(b:wQ)(c:Int)(d e:af):XF R kk (k+1) J a b c d e=
 z160 a b c d e (XF R kk k J) (fun a0 a1=>J (.exit 0) (zpt a0 a1)):=by kernel_rfl
theorem aiU(a b:af):Oi R kk K (.exit 0) (zpt a b)=
 D0 a b (fun a0=>K [.aj aK a0 [[2]]] none):=by kernel_rfl
theorem alR{kk:Nat}(hF:kk=ag)(me:Int)(t4:wQ)(t5:Int)(dB dc:af):XF R kk k J me t4 t5 dB dc=(XG k me t4 t5 dB dc).bind fun e=>J (.exit 0) (zpt e.1 e.2):=by
 induction k generalizing me t4 t5 dB dc with
 |zero=>rfl
 |succ k ih=>
  rw[anV]
  simp only[XG,z160,ih,aE]
def Tb7:ah:=QY.add 52 [(.int .i64)] (cK (.int .i64) QT (fun _ r K=>K [.aj aK r [[2]]] none))
theorem o7:aO Tryz.prog Tb7:=cN pB Tryz.f52 (fun R kk x0 K=>DZ x0 (XF R kk kk (Oi R kk K))) o6 (ek _ _ _ _) Tryz.func52 (by kernel_rfl) rfl (fun _ _ _ _ _ _ h=>h _ _) (fun _ _ _ _=>by kernel_rfl) fun R kk e x0 K=>by
 simp only[QT,DZ,D0,alR (hF:=e),aiU,aE,<-e]
def amR:Env:=e0 [.str,.str,.str]
def Tb8:ah:=Tb7.add 53 [.str,.str,.str] (kh .str .str .str vF (fun _ r K=>K [.aj (.sl 107 (.pair (.int .i64) (.pair .str .unit))) r [[]]] none))
theorem o8:aO Tryz.prog Tb8:=ku amR Tryz.f53 (fun R kk x0 x1 x2 K=>zxi x0 x1 x2 (fun a0=>K [.aj (.sl 107 (.pair (.int .i64) (.pair .str .unit))) a0 [[]]] none)) o7 (ek _ _ _ _) Tryz.func53 (by kernel_rfl) rfl (fun _ _ _ _ _ _ h=>h _ _) (fun _ _ _ _ _ _=>by kernel_rfl) fun R kk e x0 x1 x2 K=>by
 simp only[vF,zxi,aE]
def amO:Env:={b9.env (fun _=>[]) (fun _=>[]) [0] [] with sh:=[47,59]}
def Tb9:ah:=Tb8.add 33 [] (FJ Bi (fun _ r K=>K [.aj bM r [[0,1,3],[0,1,2],[0,1,0,2],[0,0,3],[0,0,0,2]]] none))
theorem o9:aO Tryz.prog Tb9:=Kn amO Tryz.f33 (fun R kk K=>zxd (fun a0=>K [.aj bM a0 [[0,1,3],[0,1,2],[0,1,0,2],[0,0,3],[0,0,0,2]]] none)) o8 ((ek _ _ _ _).sh _) Tryz.func33 (by kernel_rfl) rfl (fun _ _ _ _ _ _ h=>h _ _) (fun _ _ _=>by kernel_rfl) fun R kk e K=>by
 simp only[Bi,zxd,aE]
def G4:Env:=e0 [(.int .i64)]
def HX:ah:=Tb9.add 200 [(.int .i64)] (cK (.int .i64) yf (fun _ r K=>K [tI r] none))
theorem ZE:aO Tryz.prog HX:=cN G4 Tryz.f200 (fun R kk x0 K=>We x0 (fun a0=>K [tI a0] none)) o9 (ek _ _ _ _) Tryz.func200 (by kernel_rfl) rfl (fun _ _ _ _ _ _ h=>h _ _) (fun _ _ _ _=>by kernel_rfl) fun R kk e x0 K=>by
 simp only[yf,We,aE]
def G0:Env:=e0 [(.int .i64)]
def HY:ah:=HX.add 148 [(.int .i64)] (cK (.int .i64) Bk (fun _ r K=>K [tB r] none))
theorem ZN:aO Tryz.prog HY:=cN G0 Tryz.f148 (fun R kk x0 K=>V5 x0 (fun a0=>K [tB a0] none)) ZE (ek _ _ _ _) Tryz.func148 (by kernel_rfl) rfl (fun _ _ _ _ _ _ h=>h _ _) (fun _ _ _ _=>by kernel_rfl) fun R kk e x0 K=>by
 simp only[Bk,V5,aE]
def am5:Env:=e0 [(.int .i64)]
def vT:ah:=HY.add 201 [(.int .i64)] (cK (.int .i64) jI (fun _ r K=>K [tI r] none))
theorem ZY:aO Tryz.prog vT:=cN am5 Tryz.f201 (fun R kk x0 K=>PJ x0 (fun a0=>K [tI a0] none)) ZN (ek _ _ _ _) Tryz.func201 (by kernel_rfl) rfl (fun _ _ _ _ _ _ h=>h _ _) (fun _ _ _ _=>by kernel_rfl) fun R kk e x0 K=>by
 simp only[jI,PJ,aE]
def V7:Env:=b9.env (fun i=>bif Nat.beq i 3 then [3,5,6] else []) (fun i=>bif Nat.beq i 3 then [3] else []) [] [(.int .i64)]
def T1(a b c:Int):Option R:=aB (ev V7 (vT R) kk (sub [1,1,0,1,0,0] (cd Tryz.f149))) [3,5,6] [3] k ⟨uS 3 ([tI a]::uS 1 ([tI b]::[tI c]::uS 6 [])),nS 14 []⟩ J
def zfb(a:Int):State:=⟨uS 3 ([tI a]::uS 9 []),nS 14 []⟩
def Nl:KX R:=(zj 0 (aT V7 (vT R) kk (sub [1,1,1] (cd Tryz.f149)) (aS V7 Tryz.f149.results.toList none K)))
theorem ak0(a b c:Int):T1 R kk (k+1) J a b c=
 zyf a b c (T1 R kk k J) (fun a0=>J (.exit 0) (zfb a0)):=by kernel_rfl
theorem aex(a:Int):Nl R kk K (.exit 0) (zfb a)=
 zyg a (fun a0=>K [tI a0] none):=by kernel_rfl
theorem ahW{kk:Nat}(hF:kk=ag)(t3 t5 t6:Int):T1 R kk k J t3 t5 t6=(T3 k t3 t5 t6).bind fun e=>J (.exit 0) (zfb e):=by
 induction k generalizing t3 t5 t6 with
 |zero=>rfl
 |succ k ih=>
  rw[ak0]
  simp only[T3,zyf,ih,aE]
def HZ:ah:=vT.add 149 [(.int .i64)] (cK (.int .i64) qC (fun _ r K=>K [tI r] none))
theorem Z9:aO Tryz.prog HZ:=cN V7 Tryz.f149 (fun R kk x0 K=>zye x0 (T1 R kk kk (Nl R kk K))) ZY (ek _ _ _ _) Tryz.func149 (by kernel_rfl) rfl (fun _ _ _ _ _ _ h=>h _ _) (fun _ _ _ _=>by kernel_rfl) fun R kk e x0 K=>by
 simp only[qC,zye,zyg,ahW (hF:=e),aex,aE,<-e]
def anj:Env:=e0 [cJ]
def vU:ah:=HZ.add 96 [cJ] (cK cJ lF (fun _ r K=>K [tI r] none))
theorem o14:aO Tryz.prog vU:=cN anj Tryz.f96 (fun R kk x0 K=>UH x0 (fun a0=>K [tI a0] none)) Z9 (ek _ _ _ _) Tryz.func96 (by kernel_rfl) rfl (fun _ _ _ _ _ _ h=>h _ _) (fun _ _ _ _=>by kernel_rfl) fun R kk e x0 K=>by
 simp only[lF,UH,aE]
def Wc:Env:=b9.env (fun i=>bif Nat.beq i 6 then [1,26,27,28] else []) (fun i=>bif Nat.beq i 6 then [2,3] else []) [] [aK]
def Uu(a:gJ)(b c:Int)(d:af):Option R:=aB (ev Wc (vU R) kk (sub [1,1,0,1,0,0] (cd Tryz.f68))) [1,26,27,28] [2,3] k ⟨uS 1 ([.ptr 2 aK []]::uS 24 ([.aj (.sl 127 cJ) a []]::[tI b]::[tI c]::uS 26 [])),nS 2 ((some ⟨aK,d,[]⟩)::nS 53 [])⟩ J
def zfp(a b:Int):State:=⟨uS 2 ([tI a]::[tI b]::uS 51 []),nS 56 []⟩
def zfq:State:=⟨uS 55 [],nS 56 []⟩
def zyz:KX R:=(zj 1 (aT Wc (vU R) kk (sub [1,1,1] (cd Tryz.f68)) (aS Wc Tryz.f68.results.toList none K)))
theorem ak8(a:gJ)(b c:Int)(d:af):Uu R kk (k+1) J a b c d=
 PQ a b c d (fun a0 a1=>J .ret (zfp a0 a1)) (Uu R kk k J) (J (.exit 1) (zfq)):=by kernel_rfl
theorem aeL(a b:Int):zyz R kk K .ret (zfp a b)=
 Uv a b (fun a0 a1=>K [tI a0,tI a1] none):=by kernel_rfl
theorem aeM:zyz R kk K (.exit 1) (zfq)=
 Uw (fun a0 a1=>K [tI a0,tI a1] none):=by kernel_rfl
theorem ah4{kk:Nat}(hF:kk=ag)(t26:gJ)(t27 t28:Int)(cX:af):Uu R kk k J t26 t27 t28 cX=(A4 k t26 t27 t28 cX).bind fun e=>(Sum.elim (fun(we:(Int×Int))=>J .ret (zfp we.1 we.2)) (fun(we:Unit)=>J (.exit 1) (zfq)) e):=by
 induction k generalizing t26 t27 t28 cX with
 |zero=>rfl
 |succ k ih=>
  rw[ak8]
  simp only[A4,PQ,ih,aE]
def vV:ah:=vU.add 68 [aK] (cK aK mG (fun _ r K=>K [tI r.1,tI r.2] none))
theorem o15:aO Tryz.prog vV:=cN Wc Tryz.f68 (fun R kk x0 K=>Ge x0 (fun a0 a1=>K [tI a0,tI a1] none) (fun a0 a1 a2 a3=>Uu R kk kk (zyz R kk K) a0 a1 a2 a3)) o14 (ek _ _ _ _) Tryz.func68 (by kernel_rfl) rfl (fun _ _ _ _ _ _ h=>h _ _) (fun _ _ _ _=>by kernel_rfl) fun R kk e x0 K=>by
 simp only[mG,abt,Uv,Uw,ah4 (hF:=e),aeL,aeM,aE,<-e]
def Wd:Env:=b9.env (fun i=>bif Nat.beq i 2 then [1,4,9,10,11] else []) (fun i=>bif Nat.beq i 2 then [4,5] else []) [4] [aK,(.int .i64)]
def Ux(a:Int)(b:gJ)(c d:Int)(e:aR):Option R:=aB (ev Wd (vV R) kk (sub [1,0,1,0,0] (cd Tryz.f69))) [1,4,9,10,11] [4,5] k ⟨uS 1 ([tI a]::uS 2 ([.ptr 5 cJ []]::uS 4 ([.aj (.sl 127 cJ) b []]::[tI c]::[tI d]::uS 10 []))),nS 5 ((some ⟨cJ,e,[]⟩)::nS 17 [])⟩ J
def zfr(a:Bool)(b:aR):State:=⟨uS 4 ([.ptr 5 cJ []]::[tB a]::uS 16 []),nS 5 ((some ⟨cJ,b,[]⟩)::nS 17 [])⟩
def zfs(a:aR):State:=⟨uS 4 ([.ptr 5 cJ []]::uS 17 []),nS 5 ((some ⟨cJ,a,[]⟩)::nS 17 [])⟩
def zz0:KX R:=(zj 0 (aT Wd (vV R) kk (sub [1,1] (cd Tryz.f69)) (aS Wd Tryz.f69.results.toList none K)))
theorem ak9(a:Int)(b:gJ)(c d:Int)(e:aR):Ux R kk (k+1) J a b c d e=
 zz1 a b c d e (fun a0 a1=>J .ret (zfr a0 a1)) (Ux R kk k J) (fun a0=>J (.exit 0) (zfs a0)):=by kernel_rfl
theorem aeN(a:Bool)(b:aR):zz0 R kk K .ret (zfr a b)=
 zz2 a b (fun a0 a1=>K [.aj cJ a0 [],tB a1] none):=by kernel_rfl
theorem aeO(a:aR):zz0 R kk K (.exit 0) (zfs a)=
 zz3 a (fun a0 a1=>K [.aj cJ a0 [],tB a1] none):=by kernel_rfl
theorem ah5{kk:Nat}(hF:kk=ag)(fk:Int)(t9:gJ)(t10 t11:Int)(cP:aR):Ux R kk k J fk t9 t10 t11 cP=(PR k fk t9 t10 t11 cP).bind fun e=>(Sum.elim (fun(we:(Bool×aR))=>J .ret (zfr we.1 we.2)) (fun(we:aR)=>J (.exit 0) (zfs we)) e):=by
 induction k generalizing fk t9 t10 t11 cP with
 |zero=>rfl
 |succ k ih=>
  rw[ak9]
  simp only[PR,zz1,ih,aE]
def vW:ah:=vV.add 69 [aK,(.int .i64)] (dv aK (.int .i64) fK (fun _ r K=>K [.aj cJ r.1 [],tB r.2] none))
theorem o16:aO Tryz.prog vW:=dz Wd Tryz.f69 (fun R kk x0 x1 K=>Uy x0 x1 (Ux R kk kk (zz0 R kk K))) o15 (ek _ _ _ _) Tryz.func69 (by kernel_rfl) rfl (fun _ _ _ _ _ _ h=>h _ _) (fun _ _ _ _ _=>by kernel_rfl) fun R kk e x0 x1 K=>by
 simp only[fK,Uy,zz2,zz3,ah5 (hF:=e),aeN,aeO,aE,<-e]
def Wi:Env:=b9.env (fun i=>bif Nat.beq i 2 then [0,1,7,8] else []) (fun i=>bif Nat.beq i 2 then [4] else []) [] [(.sl 3 (.int .i64)),(.int .i64)]
def UF(a:(List Int))(b c d:Int):Option R:=aB (ev Wi (vW R) kk (sub [1,0,1,0,0] (cd Tryz.f150))) [0,1,7,8] [4] k ⟨[.aj (.sl 3 (.int .i64)) a []]::[tI b]::uS 5 ([tI c]::[tI d]::uS 10 []),nS 20 []⟩ J
def zfx(a:Int):State:=⟨uS 4 ([tI a]::uS 14 []),nS 20 []⟩
def zfy:State:=⟨uS 19 [],nS 20 []⟩
def zzd:KX R:=(zj 0 (aT Wi (vW R) kk (sub [1,1] (cd Tryz.f150)) (aS Wi Tryz.f150.results.toList none K)))
theorem ald(a:(List Int))(b c d:Int):UF R kk (k+1) J a b c d=
 zze a b c d (fun a0=>J .ret (zfx a0)) (UF R kk k J) (J (.exit 0) (zfy)):=by kernel_rfl
theorem aeT(a:Int):zzd R kk K .ret (zfx a)=
 zzf a (fun a0=>K [tI a0] none):=by kernel_rfl
theorem aeU:zzd R kk K (.exit 0) (zfy)=
 zzg (fun a0=>K [tI a0] none):=by kernel_rfl
theorem ah8{kk:Nat}(hF:kk=ag)(lM:(List Int))(Ya t7 t8:Int):UF R kk k J lM Ya t7 t8=(PU k lM Ya t7 t8).bind fun e=>(Sum.elim (fun(we:Int)=>J .ret (zfx we)) (fun(we:Unit)=>J (.exit 0) (zfy)) e):=by
 induction k generalizing lM Ya t7 t8 with
 |zero=>rfl
 |succ k ih=>
  rw[ald]
  simp only[PU,zze,ih,aE]
def H0:ah:=vW.add 150 [(.sl 3 (.int .i64)),(.int .i64)] (dv (.sl 3 (.int .i64)) (.int .i64) vK (fun _ r K=>K [tI r] none))
theorem o17:aO Tryz.prog H0:=dz Wi Tryz.f150 (fun R kk x0 x1 K=>UG x0 x1 (UF R kk kk (zzd R kk K))) o16 (ek _ _ _ _) Tryz.func150 (by kernel_rfl) rfl (fun _ _ _ _ _ _ h=>h _ _) (fun _ _ _ _ _=>by kernel_rfl) fun R kk e x0 x1 K=>by
 simp only[vK,UG,zzf,zzg,ah8 (hF:=e),aeT,aeU,aE,<-e]
def anh:Env:=e0 [(.sl 3 (.int .i64)),(.int .i64)]
def H2:ah:=H0.add 97 [(.sl 3 (.int .i64)),(.int .i64)] (dv (.sl 3 (.int .i64)) (.int .i64) sY (fun _ r K=>K [tB r] none))
theorem o18:aO Tryz.prog H2:=dz anh Tryz.f97 (fun R kk x0 x1 K=>UA x0 x1 (fun a0=>K [tB a0] none)) o17 (ek _ _ _ _) Tryz.func97 (by kernel_rfl) rfl (fun _ _ _ _ _ _ h=>h _ _) (fun _ _ _ _ _=>by kernel_rfl) fun R kk e x0 x1 K=>by
 simp only[sY,UA,aE]
def am8:Env:=e0 [cw,(.int .i64)]
def H3:ah:=H2.add 70 [cw,(.int .i64)] (dv cw (.int .i64) sU (fun _ r K=>K [tI r] none))
theorem o19:aO Tryz.prog H3:=dz am8 Tryz.f70 (fun R kk x0 x1 K=>Uj x0 x1 (fun a0=>K [tI a0] none)) o18 (ek _ _ _ _) Tryz.func70 (by kernel_rfl) rfl (fun _ _ _ _ _ _ h=>h _ _) (fun _ _ _ _ _=>by kernel_rfl) fun R kk e x0 x1 K=>by
 simp only[sU,Uj,aE]
def am7:Env:=e0 [(.pair (.int .i64) (.pair .str .unit)),.unit]
def vX:ah:=H3.add 99 [(.pair (.int .i64) (.pair .str .unit)),.unit] (pz (.pair (.int .i64) (.pair .str .unit)) (.pair (.int .i64) (.pair .str .unit)) (.pair (.int .i64) (.pair .str .unit)) [] qF (fun _ r K=>K [tB r.1] (some ⟨(.pair (.int .i64) (.pair .str .unit)),r.2,[]⟩)))
theorem o20:aO Tryz.prog vX:=sz am7 Tryz.f99 (fun R kk x0 x1 K=>Ui x0 x1 (fun a0 a1=>K [tB a0] (some ⟨(.pair (.int .i64) (.pair .str .unit)),a1,[]⟩))) o19 (ek _ _ _ _) Tryz.func99 (by kernel_rfl) rfl (fun _ _ _ _ _ _ h=>h _ _) (fun _ _ _ _ _=>by kernel_rfl) fun R kk e x0 x1 K=>by
 simp only[qF,Ui,aE]
def Wg:Env:=b9.env (fun i=>bif Nat.beq i 2 then [0,1,7,8] else []) (fun i=>bif Nat.beq i 2 then [4] else []) [] [(.sl 107 (.pair (.int .i64) (.pair .str .unit))),.unit]
def UB(a:ak)(b c:Int)(d:bd):Option R:=aB (ev Wg (vX R) kk (sub [1,0,1,0,0] (cd Tryz.f151))) [0,1,7,8] [4] k ⟨[.aj (.sl 107 (.pair (.int .i64) (.pair .str .unit))) a []]::[.ptr 0 (.aJ (.rM 99) (.pair (.int .i64) (.pair .str .unit)) .unit) []]::uS 5 ([tI b]::[tI c]::uS 10 []),(some ⟨(.pair (.int .i64) (.pair .str .unit)),d,[]⟩)::nS 19 []⟩ J
def zft(a:Int)(b:bd):State:=⟨uS 4 ([tI a]::uS 14 []),(some ⟨(.pair (.int .i64) (.pair .str .unit)),b,[]⟩)::nS 19 []⟩
def zfu(a:bd):State:=⟨uS 19 [],(some ⟨(.pair (.int .i64) (.pair .str .unit)),a,[]⟩)::nS 19 []⟩
def zz5(a:bd):KX R:=(zj 0 (aT Wg (vX R) kk (sub [1,1] (cd Tryz.f151)) (aS Wg Tryz.f151.results.toList (some ⟨(.pair (.int .i64) (.pair .str .unit)),a,[]⟩) K)))
theorem alb(a:ak)(b c:Int)(d:bd):UB R kk (k+1) J a b c d=
 zz6 a b c d (fun a0 a1=>J .ret (zft a0 a1)) (UB R kk k J) (fun a0=>J (.exit 0) (zfu a0)):=by kernel_rfl
theorem aeP(a:bd)(b:Int)(c:bd):zz5 R kk K a .ret (zft b c)=
 zz7 b c (fun a0 a1=>K [tI a0] (some ⟨(.pair (.int .i64) (.pair .str .unit)),a1,[]⟩)):=by kernel_rfl
theorem aeQ(a b:bd):zz5 R kk K a (.exit 0) (zfu b)=
 zz8 b (fun a0 a1=>K [tI a0] (some ⟨(.pair (.int .i64) (.pair .str .unit)),a1,[]⟩)):=by kernel_rfl
theorem ah6{kk:Nat}(hF:kk=ag)(lM:ak)(t7 t8:Int)(recv:bd):UB R kk k J lM t7 t8 recv=(PS k lM t7 t8 recv).bind fun e=>(Sum.elim (fun(we:(Int×bd))=>J .ret (zft we.1 we.2)) (fun(we:bd)=>J (.exit 0) (zfu we)) e):=by
 induction k generalizing lM t7 t8 recv with
 |zero=>rfl
 |succ k ih=>
  rw[alb]
  simp only[PS,zz6,ih,aE]
def H4:ah:=vX.add 151 [(.sl 107 (.pair (.int .i64) (.pair .str .unit))),.unit] (pz (.sl 107 (.pair (.int .i64) (.pair .str .unit))) (.aJ (.rM 99) (.pair (.int .i64) (.pair .str .unit)) .unit) (.pair (.int .i64) (.pair .str .unit)) [] vJ (fun _ r K=>K [tI r.1] (some ⟨(.pair (.int .i64) (.pair .str .unit)),r.2,[]⟩)))
theorem o21:aO Tryz.prog H4:=sz Wg Tryz.f151 (fun R kk x0 x1 K=>UC x0 x1 (UB R kk kk (zz5 R kk K x1))) o20 (ek _ _ _ _) Tryz.func151 (by kernel_rfl) rfl (fun _ _ _ _ _ _ h=>h _ _) (fun _ _ _ _ _=>by kernel_rfl) fun R kk e x0 x1 K=>by
 simp only[vJ,UC,zz7,zz8,ah6 (hF:=e),aeP,aeQ,aE,<-e]
def ang:Env:=e0 [(.sl 107 (.pair (.int .i64) (.pair .str .unit))),.unit]
def H5:ah:=H4.add 98 [(.sl 107 (.pair (.int .i64) (.pair .str .unit))),.unit] (pz (.sl 107 (.pair (.int .i64) (.pair .str .unit))) (.aJ (.rM 99) (.pair (.int .i64) (.pair .str .unit)) .unit) (.pair (.int .i64) (.pair .str .unit)) [] sX (fun _ r K=>K [tB r.1] (some ⟨(.pair (.int .i64) (.pair .str .unit)),r.2,[]⟩)))
theorem o22:aO Tryz.prog H5:=sz ang Tryz.f98 (fun R kk x0 x1 K=>Uz x0 x1 (fun a0 a1=>K [tB a0] (some ⟨(.pair (.int .i64) (.pair .str .unit)),a1,[]⟩))) o21 (ek _ _ _ _) Tryz.func98 (by kernel_rfl) rfl (fun _ _ _ _ _ _ h=>h _ _) (fun _ _ _ _ _=>by kernel_rfl) fun R kk e x0 x1 K=>by
 simp only[sX,Uz,aE]
def G3:Env:=e0 [(.int .u8)]
def vY:ah:=H5.add 202 [(.int .u8)] (cK (.int .u8) Bl (fun _ r K=>K [tI r] none))
theorem o23:aO Tryz.prog vY:=cN G3 Tryz.f202 (fun R kk x0 K=>Da x0 (fun a0=>K [tI a0] none)) o22 (ek _ _ _ _) Tryz.func202 (by kernel_rfl) rfl (fun _ _ _ _ _ _ h=>h _ _) (fun _ _ _ _=>by kernel_rfl) fun R kk e x0 K=>by
 simp only[Bl,Da,aE]
def oH:Env:=b9.env (fun i=>bif Nat.beq i 3 then [1,5,6] else []) (fun i=>bif Nat.beq i 3 then [4] else []) [] [(.int .i64),.str]
def V0(a:ByteArray)(b c:Int):Option R:=aB (ev oH (vY R) kk (sub [1,1,0,1,0,0] (cd Tryz.f152))) [1,5,6] [4] k ⟨uS 1 ([tS a]::uS 3 ([tI b]::[tI c]::uS 16 [])),nS 24 []⟩ J
def zot(a:Int):State:=⟨uS 4 ([tI a]::uS 18 []),nS 24 []⟩
def zou:State:=⟨uS 23 [],nS 24 []⟩
def C7:KX R:=(zj 0 (aT oH (vY R) kk (sub [1,1,1] (cd Tryz.f152)) (aS oH Tryz.f152.results.toList none K)))
theorem amT(a:ByteArray)(b c:Int):V0 R kk (k+1) J a b c=
 Qg a b c (fun a0=>J .ret (zot a0)) (V0 R kk k J) (J (.exit 0) (zou)):=by kernel_rfl
theorem ahQ(a:Int):C7 R kk K .ret (zot a)=
 C8 a (fun a0=>K [tI a0] none):=by kernel_rfl
theorem ahR:C7 R kk K (.exit 0) (zou)=
 C9 (fun a0=>K [tI a0] none):=by kernel_rfl
theorem akV{kk:Nat}(hF:kk=ag)(kJ:ByteArray)(t5 t6:Int):V0 R kk k J kJ t5 t6=(E0 k kJ t5 t6).bind fun e=>(Sum.elim (fun(we:Int)=>J .ret (zot we)) (fun(we:Unit)=>J (.exit 0) (zou)) e):=by
 induction k generalizing kJ t5 t6 with
 |zero=>rfl
 |succ k ih=>
  rw[amT]
  simp only[E0,Qg,ih,aE]
def H6:ah:=vY.add 152 [(.int .i64),.str] (dv (.int .i64) .str GZ (fun _ r K=>K [tI r] none))
theorem o24:aO Tryz.prog H6:=dz oH Tryz.f152 (fun R kk x0 x1 K=>V1 x0 x1 (V0 R kk kk (C7 R kk K))) o23 (ek _ _ _ _) Tryz.func152 (by kernel_rfl) rfl (fun _ _ _ _ _ _ h=>h _ _) (fun _ _ _ _ _=>by kernel_rfl) fun R kk e x0 x1 K=>by
 simp only[GZ,V1,C8,C9,akV (hF:=e),ahQ,ahR,aE,<-e]
def ans:Env:=e0 [(.int .i64)]
def H7:ah:=H6.add 222 [(.int .i64)] (cK (.int .i64) nX (fun _ r K=>K [tB r] none))
theorem o25:aO Tryz.prog H7:=cN ans Tryz.f222 (fun R kk x0 K=>zzk x0 (fun a0=>K [tB a0] none)) o24 (ek _ _ _ _) Tryz.func222 (by kernel_rfl) rfl (fun _ _ _ _ _ _ h=>h _ _) (fun _ _ _ _=>by kernel_rfl) fun R kk e x0 K=>by
 simp only[nX,zzk,aE]
def anr:Env:=e0 [(.int .i64)]
def H8:ah:=H7.add 223 [(.int .i64)] (cK (.int .i64) s9 (fun _ r K=>K [tB r] none))
theorem o26:aO Tryz.prog H8:=cN anr Tryz.f223 (fun R kk x0 K=>UZ x0 (fun a0=>K [tB a0] none)) o25 (ek _ _ _ _) Tryz.func223 (by kernel_rfl) rfl (fun _ _ _ _ _ _ h=>h _ _) (fun _ _ _ _=>by kernel_rfl) fun R kk e x0 K=>by
 simp only[s9,UZ,aE]
def anq:Env:=e0 [.str,(.int .i64)]
def H9:ah:=H8.add 203 [.str,(.int .i64)] (dv .str (.int .i64) s8 (fun _ r K=>K [tI r.1,tI r.2.1,tI r.2.2] none))
theorem o27:aO Tryz.prog H9:=dz anq Tryz.f203 (fun R kk x0 x1 K=>UY x0 x1 (fun a0 a1 a2=>K [tI a0,tI a1,tI a2] none)) o26 (ek _ _ _ _) Tryz.func203 (by kernel_rfl) rfl (fun _ _ _ _ _ _ h=>h _ _) (fun _ _ _ _ _=>by kernel_rfl) fun R kk e x0 x1 K=>by
 simp only[s8,UY,aE]
def X3:Env:=e0 [(.int .i64)]
def vZ:ah:=H9.add 224 [(.int .i64)] (cK (.int .i64) Q4 (fun _ r K=>K [tI r] none))
theorem o28:aO Tryz.prog vZ:=cN X3 Tryz.f224 (fun R kk x0 K=>oY x0 (fun a0=>K [tI a0] none)) o27 (ek _ _ _ _) Tryz.func224 (by kernel_rfl) rfl (fun _ _ _ _ _ _ h=>h _ _) (fun _ _ _ _=>by kernel_rfl) fun R kk e x0 K=>by
 simp only[Q4,oY,aE]
def vO:Env:=b9.env (fun i=>bif Nat.beq i 14 then [0,1,7,8,44,45] else []) (fun i=>bif Nat.beq i 14 then [1,7,8] else []) [] [.str,(.int .i64)]
def oR(a:ByteArray)(b c d e f:Int):Option R:=aB (ev vO (vZ R) kk (sub [1,1,1,1,1,1,1,0,1,0,0] (cd Tryz.f204))) [0,1,7,8,44,45] [1,7,8] k ⟨[tS a]::[tI b]::uS 5 ([tI c]::[tI d]::uS 35 ([tI e]::[tI f]::uS 21 [])),nS 68 []⟩ J
def CK(a b c:Int):State:=⟨uS 1 ([tI a]::uS 5 ([tI b]::[tI c]::uS 58 [])),nS 68 []⟩
def yk:KX R:=(zj 0 (aT vO (vZ R) kk (sub [1,1,1,1,1,1,1,1] (cd Tryz.f204)) (aS vO Tryz.f204.results.toList none K)))
theorem Hq(a:ByteArray)(b c d e f:Int):oR R kk (k+1) J a b c d e f=
 kO a b c d e f (oR R kk k J) (fun a0 a1 a2=>J (.exit 0) (CK a0 a1 a2)):=by kernel_rfl
theorem alz(a b c:Int):yk R kk K (.exit 0) (CK a b c)=
 kP a b c (fun a0 a1 a2=>K [tI a0,tI a1,tI a2] none):=by kernel_rfl
theorem anD{kk:Nat}(hF:kk=ag)(n8:ByteArray)(Bu t7 t8 t44 t45:Int):oR R kk k J n8 Bu t7 t8 t44 t45=(eO k n8 Bu t7 t8 t44 t45).bind fun e=>J (.exit 0) (CK e.1 e.2.1 e.2.2):=by
 induction k generalizing n8 Bu t7 t8 t44 t45 with
 |zero=>rfl
 |succ k ih=>
  rw[Hq]
  simp only[eO,kO,ih,aE]
def wg:ah:=vZ.add 204 [.str,(.int .i64)] (dv .str (.int .i64) Q3 (fun _ r K=>K [tI r.1,tI r.2.1,tI r.2.2] none))
theorem o29:aO Tryz.prog wg:=dz vO Tryz.f204 (fun R kk x0 x1 K=>kN x0 x1 (fun a0 a1 a2=>K [tI a0,tI a1,tI a2] none) (fun a0 a1 a2 a3 a4 a5=>oR R kk kk (yk R kk K) a0 a1 a2 a3 a4 a5)) o28 (ek _ _ _ _) Tryz.func204 (by kernel_rfl) rfl (fun _ _ _ _ _ _ h=>h _ _) (fun _ _ _ _ _=>by kernel_rfl) fun R kk e x0 x1 K=>by
 simp only[Q3,acB,kP,anD (hF:=e),alz,aE,<-e]
def Wo:Env:=b9.env (fun i=>bif Nat.beq i 4 then [0,5,6,7,13] else []) (fun i=>bif Nat.beq i 4 then [2,3,4,5] else []) [] [.str]
def U0(a:ByteArray)(b:ak)(c:Int)(d:Br):Option R:=aB (ev Wo (wg R) kk (sub [1,1,1,0,1,0,0] (cd Tryz.f153))) [0,5,6,7,13] [2,3,4,5] k ⟨[tS a]::uS 4 ([.aj (.sl 245 (.pair (.int .i64) (.pair .str .unit))) b [[]]]::[.ptr 14 (.aJ .mp (.int .i64) .bool) []]::[tI c]::uS 5 ([.ptr 14 (.aJ .mp (.int .i64) .bool) []]::uS 58 [])),nS 14 ((some ⟨(.aJ .mp (.int .i64) .bool),d,[]⟩)::nS 58 [])⟩ J
def zg4(a:ak)(b c:Int)(d:ak):State:=⟨uS 2 ([.aj (.sl 245 (.pair (.int .i64) (.pair .str .unit))) a [[]]]::[tI b]::[tI c]::[.aj (.sl 245 (.pair (.int .i64) (.pair .str .unit))) d [[]]]::uS 66 []),nS 73 []⟩
def zg5(a:ak):State:=⟨uS 5 ([.aj (.sl 245 (.pair (.int .i64) (.pair .str .unit))) a [[]]]::uS 66 []),nS 73 []⟩
def zzl:KX R:=(zj 0 (aT Wo (wg R) kk (sub [1,1,1,1] (cd Tryz.f153)) (aS Wo Tryz.f153.results.toList none K)))
theorem ali(a:ByteArray)(b:ak)(c:Int)(d:Br):U0 R kk (k+1) J a b c d=
 U2 a b c d (fun a0 a1 a2 a3=>J .ret (zg4 a0 a1 a2 a3)) (U0 R kk k J) (fun a0=>J (.exit 0) (zg5 a0)):=by kernel_rfl
theorem aeZ(a:ak)(b c:Int)(d:ak):zzl R kk K .ret (zg4 a b c d)=
 zzm a b c d (fun a0 a1 a2=>K [.aj (.sl 245 (.pair (.int .i64) (.pair .str .unit))) a0 [[]],tI a1,tI a2] none):=by kernel_rfl
theorem ae0(a:ak):zzl R kk K (.exit 0) (zg5 a)=
 zzn a (fun a0 a1 a2=>K [.aj (.sl 245 (.pair (.int .i64) (.pair .str .unit))) a0 [],tI a1,tI a2] none):=by kernel_rfl
theorem aie{kk:Nat}(hF:kk=ag)(n8:ByteArray)(t5:ak)(t7:Int)(jS:Br):U0 R kk k J n8 t5 t7 jS=(Gh k n8 t5 t7 jS).bind fun e=>(Sum.elim (fun(we:qL)=>J .ret (zg4 we.1 we.2.1 we.2.2.1 we.2.2.2)) (fun(we:ak)=>J (.exit 0) (zg5 we)) e):=by
 induction k generalizing n8 t5 t7 jS with
 |zero=>rfl
 |succ k ih=>
  rw[ali]
  simp only[Gh,U2,ih,aE]
def Ia:ah:=wg.add 153 [.str] (cK .str tc (fun _ r K=>(Sum.elim (fun(wr:jm)=>K [.aj (.sl 245 (.pair (.int .i64) (.pair .str .unit))) wr.1 [[]],tI wr.2.1,tI wr.2.2] none) (fun(wr:jm)=>K [.aj (.sl 245 (.pair (.int .i64) (.pair .str .unit))) wr.1 [],tI wr.2.1,tI wr.2.2] none) r)))
theorem o30:aO Tryz.prog Ia:=cN Wo Tryz.f153 (fun R kk x0 K=>U1 x0 (U0 R kk kk (zzl R kk K))) o29 (ek _ _ _ _) Tryz.func153 (by kernel_rfl) rfl (fun _ _ _ _ _ _ h=>Qc (fun _=>h _ _) (fun _=>h _ _)) (fun _ _ _ _=>by kernel_rfl) fun R kk e x0 K=>by
 simp only[tc,U1,zzm,zzn,aie (hF:=e),aeZ,ae0,aE,<-e]
def ank:Env:=e0 [cJ,.str]
def Ib:ah:=Ia.add 100 [cJ,.str] (dv cJ .str bW (fun _ r K=>K [tI r] none))
theorem o31:aO Tryz.prog Ib:=dz ank Tryz.f100 (fun R kk x0 x1 K=>UI x0 x1 (fun a0=>K [tI a0] none)) o30 (ek _ _ _ _) Tryz.func100 (by kernel_rfl) rfl (fun _ _ _ _ _ _ h=>h _ _) (fun _ _ _ _ _=>by kernel_rfl) fun R kk e x0 x1 K=>by
 simp only[bW,UI,aE]
def am6:Env:=e0 [cw,(.int .i64),cJ]
def qK:ah:=Ib.add 71 [cw,(.int .i64),cJ] (kh cw (.int .i64) cJ sT (fun _ r K=>K [tI r] none))
theorem o32:aO Tryz.prog qK:=ku am6 Tryz.f71 (fun R kk x0 x1 x2 K=>Uh x0 x1 x2 (fun a0=>K [tI a0] none)) o31 (ek _ _ _ _) Tryz.func71 (by kernel_rfl) rfl (fun _ _ _ _ _ _ h=>h _ _) (fun _ _ _ _ _ _=>by kernel_rfl) fun R kk e x0 x1 x2 K=>by
 simp only[sT,Uh,aE]
def E1:Env:=b9.env (fun i=>bif Nat.beq i 8 then [1,7,33,34] else bif Nat.beq i 16 then [1,7,11,46,47,48] else []) (fun i=>bif Nat.beq i 8 then [1,2,3,4,7] else bif Nat.beq i 16 then [1,2,3,4,11] else []) [] [cw]
def T8(a b:Int)(c:ar)(d:aR):Option R:=aB (ev E1 (qK R) kk (sub [1,1,1,1,0,1,0,0] (cd Tryz.f55))) [1,7,33,34] [1,2,3,4,7] k ⟨uS 1 ([.ptr 2 cw []]::uS 5 ([.ptr 8 cJ []]::uS 25 ([tI a]::[tI b]::uS 38 []))),nS 2 ((some ⟨cw,c,[]⟩)::nS 5 ((some ⟨cJ,d,[]⟩)::nS 65 []))⟩ J
def zfd(a b c:Int)(d:ar)(e:aR):State:=⟨uS 1 ([.ptr 2 cw []]::[tI a]::[tI b]::[tI c]::uS 2 ([.ptr 8 cJ []]::uS 65 [])),nS 2 ((some ⟨cw,d,[]⟩)::nS 5 ((some ⟨cJ,e,[]⟩)::nS 65 []))⟩
def zfe(a:ar)(b:aR):State:=⟨uS 1 ([.ptr 2 cw []]::uS 5 ([.ptr 8 cJ []]::uS 65 [])),nS 2 ((some ⟨cw,a,[]⟩)::nS 5 ((some ⟨cJ,b,[]⟩)::nS 65 []))⟩
def zyi:KX R:=(zj 0 (aT E1 (qK R) kk (sub [1,1,1,1,1] (cd Tryz.f55)) (aS E1 Tryz.f55.results.toList none K)))
def T9(a:Bool)(b:ak)(c d:Int)(e:ar)(f:aR):Option R:=aB (ev E1 (qK R) kk (sub [1,1,1,1,1,1,0,1,0,0] (cd Tryz.f55))) [1,7,11,46,47,48] [1,2,3,4,11] k ⟨uS 1 ([.ptr 2 cw []]::uS 5 ([.ptr 8 cJ []]::uS 3 ([tB a]::uS 34 ([.aj (.sl 107 (.pair (.int .i64) (.pair .str .unit))) b []]::[tI c]::[tI d]::uS 24 [])))),nS 2 ((some ⟨cw,e,[]⟩)::nS 5 ((some ⟨cJ,f,[]⟩)::nS 65 []))⟩ J
def zff(a b c:Int)(d:Bool)(e:ar):State:=⟨uS 1 ([.ptr 2 cw []]::[tI a]::[tI b]::[tI c]::uS 6 ([tB d]::uS 61 [])),nS 2 ((some ⟨cw,e,[]⟩)::nS 71 [])⟩
def zfg(a:Bool)(b:ar):State:=⟨uS 1 ([.ptr 2 cw []]::uS 9 ([tB a]::uS 61 [])),nS 2 ((some ⟨cw,b,[]⟩)::nS 71 [])⟩
def zyj:KX R:=(zj 2 (aT E1 (qK R) kk (sub [1,1,1,1,1,1,1] (cd Tryz.f55)) (aS E1 Tryz.f55.results.toList none K)))
theorem ak2(a b:Int)(c:ar)(d:aR):T8 R kk (k+1) J a b c d=
 PL a b c d (fun a0 a1 a2 a3 a4=>J .ret (zfd a0 a1 a2 a3 a4)) (T8 R kk k J) (fun a0 a1=>J (.exit 0) (zfe a0 a1)):=by kernel_rfl
theorem aez(a b c:Int)(d:ar)(e:aR):zyi R kk K .ret (zfd a b c d e)=
 zyk a b c d e (fun a0 a1 a2=>K [tI a0,tI a1,tI a2] none):=by kernel_rfl
theorem aeA(a:ar)(b:aR):zyi R kk K (.exit 0) (zfe a b)=
 Ub a b (T9 R kk kk (zyj R kk K)):=by kernel_rfl
theorem ak3(a:Bool)(b:ak)(c d:Int)(e:ar)(f:aR):T9 R kk (k+1) J a b c d e f=
 PM a b c d e f (fun a0 a1 a2 a3 a4=>J .ret (zff a0 a1 a2 a3 a4)) (T9 R kk k J) (fun a0 a1=>J (.exit 2) (zfg a0 a1)):=by kernel_rfl
theorem aeB(a b c:Int)(d:Bool)(e:ar):zyj R kk K .ret (zff a b c d e)=
 zyl a b c d e (fun a0 a1 a2=>K [tI a0,tI a1,tI a2] none):=by kernel_rfl
theorem aeC(a:Bool)(b:ar):zyj R kk K (.exit 2) (zfg a b)=
 Uc a b (fun a0 a1 a2=>K [tI a0,tI a1,tI a2] none):=by kernel_rfl
theorem ahY{kk:Nat}(hF:kk=ag)(t33 t34:Int)(cX:ar)(lN:aR):T8 R kk k J t33 t34 cX lN=(EN k t33 t34 cX lN).bind fun e=>(Sum.elim (fun(we:(Int×Int×Int×ar×aR))=>J .ret (zfd we.1 we.2.1 we.2.2.1 we.2.2.2.1 we.2.2.2.2)) (fun(we:(ar×aR))=>J (.exit 0) (zfe we.1 we.2)) e):=by
 induction k generalizing t33 t34 cX lN with
 |zero=>rfl
 |succ k ih=>
  rw[ak2]
  simp only[EN,PL,ih,aE]
theorem ahZ{kk:Nat}(hF:kk=ag)(t11:Bool)(t46:ak)(t47 t48:Int)(cX:ar)(lN:aR):T9 R kk k J t11 t46 t47 t48 cX lN=(EO k t11 t46 t47 t48 cX lN).bind fun e=>(Sum.elim (fun(we:(Int×Int×Int×Bool×ar))=>J .ret (zff we.1 we.2.1 we.2.2.1 we.2.2.2.1 we.2.2.2.2)) (fun(we:(Bool×ar))=>J (.exit 2) (zfg we.1 we.2)) e):=by
 induction k generalizing t11 t46 t47 t48 cX lN with
 |zero=>rfl
 |succ k ih=>
  rw[ak3]
  simp only[EO,PM,ih,aE]
def wh:ah:=qK.add 55 [cw] (cK cw sR (fun _ r K=>K [tI r.1,tI r.2.1,tI r.2.2] none))
theorem o33:aO Tryz.prog wh:=cN E1 Tryz.f55 (fun R kk x0 K=>Ua x0 (fun a0 a1 a2=>K [tI a0,tI a1,tI a2] none) (T8 R kk kk (zyi R kk K))) o32 (ek _ _ _ _) Tryz.func55 (by kernel_rfl) rfl (fun _ _ _ _ _ _ h=>h _ _) (fun _ _ _ _=>by kernel_rfl) fun R kk e x0 K=>by
 simp only[sR,Ua,zyk,Ub,zyl,Uc,ahY (hF:=e),ahZ (hF:=e),aez,aeA,aeB,aeC,aE,<-e]
def oL:Env:=b9.env (fun i=>bif Nat.beq i 2 then [6] else []) (fun i=>bif Nat.beq i 2 then [2] else []) [] [.str]
def Wu(a:mN):Option R:=aB (ev oL (wh R) kk (sub [1,0,1,0,0] (cd Tryz.f205))) [6] [2] k ⟨uS 6 ([.ptr 7 (.aJ .iter .unit .unit) []]::uS 9 []),nS 7 ((some ⟨(.aJ .iter .unit .unit),a,[]⟩)::nS 9 [])⟩ J
def zoz(a:Bool):State:=⟨uS 2 ([tB a]::uS 13 []),nS 17 []⟩
def zp0:State:=⟨uS 16 [],nS 17 []⟩
def Dj:KX R:=(zj 0 (aT oL (wh R) kk (sub [1,1] (cd Tryz.f205)) (aS oL Tryz.f205.results.toList none K)))
theorem anw(a:mN):Wu R kk (k+1) J a=
 Ww a (fun a0=>J .ret (zoz a0)) (Wu R kk k J) (J (.exit 0) (zp0)):=by kernel_rfl
theorem aiq(a:Bool):Dj R kk K .ret (zoz a)=
 Dk a (fun a0=>K [tB a0] none):=by kernel_rfl
theorem air:Dj R kk K (.exit 0) (zp0)=
 Dl (fun a0=>K [tB a0] none):=by kernel_rfl
theorem alu{kk:Nat}(hF:kk=ag)(jS:mN):Wu R kk k J jS=(Gs k jS).bind fun e=>(Sum.elim (fun(we:Bool)=>J .ret (zoz we)) (fun(we:Unit)=>J (.exit 0) (zp0)) e):=by
 induction k generalizing jS with
 |zero=>rfl
 |succ k ih=>
  rw[anw]
  simp only[Gs,Ww,ih,aE]
def Ic:ah:=wh.add 205 [.str] (cK .str yh (fun _ r K=>K [tB r] none))
theorem o34:aO Tryz.prog Ic:=cN oL Tryz.f205 (fun R kk x0 K=>Wv x0 (Wu R kk kk (Dj R kk K))) o33 (ek _ _ _ _) Tryz.func205 (by kernel_rfl) rfl (fun _ _ _ _ _ _ h=>h _ _) (fun _ _ _ _=>by kernel_rfl) fun R kk e x0 K=>by
 simp only[yh,Wv,Dk,Dl,alu (hF:=e),aiq,air,aE,<-e]
def am0:Env:=e0 [.str]
def Ie:ah:=Ic.add 154 [.str] (cK .str nU (fun _ r K=>K [tB r] none))
theorem o35:aO Tryz.prog Ie:=cN am0 Tryz.f154 (fun R kk x0 K=>TX x0 (fun a0=>K [tB a0] none)) o34 (ek _ _ _ _) Tryz.func154 (by kernel_rfl) rfl (fun _ _ _ _ _ _ h=>h _ _) (fun _ _ _ _=>by kernel_rfl) fun R kk e x0 K=>by
 simp only[nU,TX,aE]
def am1:Env:=e0 [.str]
def Ig:ah:=Ie.add 101 [.str] (cK .str jj (fun _ r K=>K [tI r.1,tB r.2] none))
theorem o36:aO Tryz.prog Ig:=cN am1 Tryz.f101 (fun R kk x0 K=>TY x0 (fun a0 a1=>K [tI a0,tB a1] none)) o35 (ek _ _ _ _) Tryz.func101 (by kernel_rfl) rfl (fun _ _ _ _ _ _ h=>h _ _) (fun _ _ _ _=>by kernel_rfl) fun R kk e x0 K=>by
 simp only[jj,TY,aE]
def amY:Env:=e0 [.str]
def Ih:ah:=Ig.add 102 [.str] (cK .str nT (fun _ r K=>K [tB r] none))
theorem o37:aO Tryz.prog Ih:=cN amY Tryz.f102 (fun R kk x0 K=>TV x0 (fun a0=>K [tB a0] none)) o36 (ek _ _ _ _) Tryz.func102 (by kernel_rfl) rfl (fun _ _ _ _ _ _ h=>h _ _) (fun _ _ _ _=>by kernel_rfl) fun R kk e x0 K=>by
 simp only[nT,TV,aE]
def anx:Env:=e0 [(.pair .str (.pair .str .unit)),aK,aK]
def Ii:ah:=Ih.add 72 [(.pair .str (.pair .str .unit)),aK,aK] (kh (.pair .str (.pair .str .unit)) aK aK n0 (fun _ r K=>K [tB r] none))
theorem o38:aO Tryz.prog Ii:=ku anx Tryz.f72 (fun R kk x0 x1 x2 K=>Vm x0 x1 x2 (fun a0=>K [tB a0] none)) o37 (ek _ _ _ _) Tryz.func72 (by kernel_rfl) rfl (fun _ _ _ _ _ _ h=>h _ _) (fun _ _ _ _ _ _=>by kernel_rfl) fun R kk e x0 x1 x2 K=>by
 simp only[n0,Vm,aE]
def ane:Env:=b9.env (fun _=>[]) (fun _=>[]) [6,7] [cA,aK,aK]
def Ij:ah:=Ii.add 103 [cA,aK,aK] (kh cA aK aK sW (fun _ r K=>K [.aj cJ r.1 [],.aj cJ r.2.1 [],tI r.2.2] none))
theorem o39:aO Tryz.prog Ij:=ku ane Tryz.f103 (fun R kk x0 x1 x2 K=>Uq x0 x1 x2 (fun a0 a1 a2=>K [.aj cJ a0 [],.aj cJ a1 [],tI a2] none)) o38 (ek _ _ _ _) Tryz.func103 (by kernel_rfl) rfl (fun _ _ _ _ _ _ h=>h _ _) (fun _ _ _ _ _ _=>by kernel_rfl) fun R kk e x0 x1 x2 K=>by
 simp only[sW,Uq,aE]
def G2:Env:=e0 [(.int .i64),(.int .i64)]
def Ik:ah:=Ij.add 206 [(.int .i64),(.int .i64)] (dv (.int .i64) (.int .i64) G1 (fun _ r K=>K [tB r] none))
theorem o40:aO Tryz.prog Ik:=dz G2 Tryz.f206 (fun R kk x0 x1 K=>V8 x0 x1 (fun a0=>K [tB a0] none)) o39 (ek _ _ _ _) Tryz.func206 (by kernel_rfl) rfl (fun _ _ _ _ _ _ h=>h _ _) (fun _ _ _ _ _=>by kernel_rfl) fun R kk e x0 x1 K=>by
 simp only[G1,V8,aE]
def anm:Env:=e0 [(.int .i64),(.int .i64)]
def Il:ah:=Ik.add 155 [(.int .i64),(.int .i64)] (dv (.int .i64) (.int .i64) vL (fun _ r K=>K [tB r] none))
theorem o41:aO Tryz.prog Il:=dz anm Tryz.f155 (fun R kk x0 x1 K=>UK x0 x1 (fun a0=>K [tB a0] none)) o40 (ek _ _ _ _) Tryz.func155 (by kernel_rfl) rfl (fun _ _ _ _ _ _ h=>h _ _) (fun _ _ _ _ _=>by kernel_rfl) fun R kk e x0 x1 K=>by
 simp only[vL,UK,aE]
def anl:Env:=e0 [cJ,cJ]
def Im:ah:=Il.add 104 [cJ,cJ] (dv cJ cJ lG (fun _ r K=>K [tB r] none))
theorem o42:aO Tryz.prog Im:=dz anl Tryz.f104 (fun R kk x0 x1 K=>UJ x0 x1 (fun a0=>K [tB a0] none)) o41 (ek _ _ _ _) Tryz.func104 (by kernel_rfl) rfl (fun _ _ _ _ _ _ h=>h _ _) (fun _ _ _ _ _=>by kernel_rfl) fun R kk e x0 x1 K=>by
 simp only[lG,UJ,aE]
def anf:Env:=e0 [cJ]
def wl:ah:=Im.add 105 [cJ] (cK cJ jk (fun _ r K=>K [tB r] none))
theorem o43:aO Tryz.prog wl:=cN anf Tryz.f105 (fun R kk x0 K=>Ur x0 (fun a0=>K [tB a0] none)) o42 (ek _ _ _ _) Tryz.func105 (by kernel_rfl) rfl (fun _ _ _ _ _ _ h=>h _ _) (fun _ _ _ _=>by kernel_rfl) fun R kk e x0 K=>by
 simp only[jk,Ur,aE]
def oK:Env:=b9.env (fun i=>bif Nat.beq i 5 then [4,10,11,12,13] else []) (fun i=>bif Nat.beq i 5 then [2,3] else []) [] [(.sl 109 (.pair .str (.pair .str .unit)))]
def Wp(a:aN)(b c:Int)(d:hM):Option R:=aB (ev oK (wl R) kk (sub [1,1,1,0,1,0,0] (cd Tryz.f156))) [4,10,11,12,13] [2,3] k ⟨uS 4 ([.ptr 11 (.aJ .mp .str .bool) []]::uS 5 ([.ptr 11 (.aJ .mp .str .bool) []]::[.aj (.sl 109 (.pair .str (.pair .str .unit))) a []]::[tI b]::[tI c]::uS 13 [])),nS 11 ((some ⟨(.aJ .mp .str .bool),d,[]⟩)::nS 16 [])⟩ J
def zox(a b:Int):State:=⟨uS 2 ([tI a]::[tI b]::uS 23 []),nS 28 []⟩
def zoy:State:=⟨uS 27 [],nS 28 []⟩
def Df:KX R:=(zj 0 (aT oK (wl R) kk (sub [1,1,1,1] (cd Tryz.f156)) (aS oK Tryz.f156.results.toList none K)))
theorem ant(a:aN)(b c:Int)(d:hM):Wp R kk (k+1) J a b c d=
 Dg a b c d (fun a0 a1=>J .ret (zox a0 a1)) (Wp R kk k J) (J (.exit 0) (zoy)):=by kernel_rfl
theorem aif(a b:Int):Df R kk K .ret (zox a b)=
 Dh a b (fun a0 a1=>K [tI a0,tI a1] none):=by kernel_rfl
theorem aih:Df R kk K (.exit 0) (zoy)=
 Di (fun a0 a1=>K [tI a0,tI a1] none):=by kernel_rfl
theorem alj{kk:Nat}(hF:kk=ag)(t11:aN)(t12 t13:Int)(cP:hM):Wp R kk k J t11 t12 t13 cP=(Qi k t11 t12 t13 cP).bind fun e=>(Sum.elim (fun(we:(Int×Int))=>J .ret (zox we.1 we.2)) (fun(we:Unit)=>J (.exit 0) (zoy)) e):=by
 induction k generalizing t11 t12 t13 cP with
 |zero=>rfl
 |succ k ih=>
  rw[ant]
  simp only[Qi,Dg,ih,aE]
def wo:ah:=wl.add 156 [(.sl 109 (.pair .str (.pair .str .unit)))] (cK (.sl 109 (.pair .str (.pair .str .unit))) G7 (fun _ r K=>K [tI r.1,tI r.2] none))
theorem o44:aO Tryz.prog wo:=cN oK Tryz.f156 (fun R kk x0 K=>Wq x0 (fun a0 a1=>K [tI a0,tI a1] none) (Wp R kk kk (Df R kk K))) o43 (ek _ _ _ _) Tryz.func156 (by kernel_rfl) rfl (fun _ _ _ _ _ _ h=>h _ _) (fun _ _ _ _=>by kernel_rfl) fun R kk e x0 K=>by
 simp only[G7,Wq,Dh,Di,alj (hF:=e),aif,aih,aE,<-e]
def Wb:Env:=b9.env (fun i=>bif Nat.beq i 5 then [4,5,25,26,27] else []) (fun i=>bif Nat.beq i 5 then [6] else []) [] [(.sl 109 (.pair .str (.pair .str .unit))),cJ,cJ]
def Us(a:aN)(b c:Int)(d e:aR):Option R:=aB (ev Wb (wo R) kk (sub [1,1,0,1,0,0] (cd Tryz.f106))) [4,5,25,26,27] [6] k ⟨uS 4 ([.ptr 5 cJ []]::[.ptr 6 cJ []]::uS 19 ([.aj (.sl 109 (.pair .str (.pair .str .unit))) a []]::[tI b]::[tI c]::uS 18 [])),nS 5 ((some ⟨cJ,d,[]⟩)::(some ⟨cJ,e,[]⟩)::nS 40 [])⟩ J
def zfn(a:Int):State:=⟨uS 6 ([tI a]::uS 39 []),nS 47 []⟩
def zfo:State:=⟨uS 46 [],nS 47 []⟩
def zyv:KX R:=(zj 0 (aT Wb (wo R) kk (sub [1,1,1] (cd Tryz.f106)) (aS Wb Tryz.f106.results.toList none K)))
theorem ak7(a:aN)(b c:Int)(d e:aR):Us R kk (k+1) J a b c d e=
 zyw a b c d e (fun a0=>J .ret (zfn a0)) (Us R kk k J) (J (.exit 0) (zfo)):=by kernel_rfl
theorem aeJ(a:Int):zyv R kk K .ret (zfn a)=
 zyx a (fun a0=>K [tI a0] none):=by kernel_rfl
theorem aeK:zyv R kk K (.exit 0) (zfo)=
 zyy (fun a0=>K [tI a0] none):=by kernel_rfl
theorem ah3{kk:Nat}(hF:kk=ag)(t25:aN)(t26 t27:Int)(cP dV:aR):Us R kk k J t25 t26 t27 cP dV=(PO k t25 t26 t27 cP dV).bind fun e=>(Sum.elim (fun(we:Int)=>J .ret (zfn we)) (fun(we:Unit)=>J (.exit 0) (zfo)) e):=by
 induction k generalizing t25 t26 t27 cP dV with
 |zero=>rfl
 |succ k ih=>
  rw[ak7]
  simp only[PO,zyw,ih,aE]
def Io:ah:=wo.add 106 [(.sl 109 (.pair .str (.pair .str .unit))),cJ,cJ] (kh (.sl 109 (.pair .str (.pair .str .unit))) cJ cJ mF (fun _ r K=>K [tI r] none))
theorem o45:aO Tryz.prog Io:=ku Wb Tryz.f106 (fun R kk x0 x1 x2 K=>Ut x0 x1 x2 (fun a0=>K [tI a0] none) (Us R kk kk (zyv R kk K))) o44 (ek _ _ _ _) Tryz.func106 (by kernel_rfl) rfl (fun _ _ _ _ _ _ h=>h _ _) (fun _ _ _ _ _ _=>by kernel_rfl) fun R kk e x0 x1 x2 K=>by
 simp only[mF,Ut,zyx,zyy,ah3 (hF:=e),aeJ,aeK,aE,<-e]
def anc:Env:=e0 [cA,aK,aK]
def Ip:ah:=Io.add 73 [cA,aK,aK] (kh cA aK aK nW (fun _ r K=>K [tI r] none))
theorem o46:aO Tryz.prog Ip:=ku anc Tryz.f73 (fun R kk x0 x1 x2 K=>Up x0 x1 x2 (fun a0=>K [tI a0] none)) o45 (ek _ _ _ _) Tryz.func73 (by kernel_rfl) rfl (fun _ _ _ _ _ _ h=>h _ _) (fun _ _ _ _ _ _=>by kernel_rfl) fun R kk e x0 x1 x2 K=>by
 simp only[nW,Up,aE]
def Hj:Env:=b9.env (fun _=>[]) (fun _=>[]) [2] [(.int .i64)]
def Iq:ah:=Ip.add 157 [(.int .i64)] (cK (.int .i64) Fi (fun _ r K=>K [.aj (.pair (.int .u64) (.pair (.int .u64) .unit)) r []] none))
theorem o47:aO Tryz.prog Iq:=cN Hj Tryz.f157 (fun R kk x0 K=>WM x0 (fun a0=>K [.aj (.pair (.int .u64) (.pair (.int .u64) .unit)) a0 []] none)) o46 (ek _ _ _ _) Tryz.func157 (by kernel_rfl) rfl (fun _ _ _ _ _ _ h=>h _ _) (fun _ _ _ _=>by kernel_rfl) fun R kk e x0 K=>by
 simp only[Fi,WM,aE]
def Hd:Env:=b9.env (fun _=>[]) (fun _=>[]) [4] [(.pair (.int .u64) (.pair (.int .u64) .unit)),(.pair (.int .u64) (.pair (.int .u64) .unit))]
def Ir:ah:=Iq.add 76 [(.pair (.int .u64) (.pair (.int .u64) .unit)),(.pair (.int .u64) (.pair (.int .u64) .unit))] (dv (.pair (.int .u64) (.pair (.int .u64) .unit)) (.pair (.int .u64) (.pair (.int .u64) .unit)) tf (fun _ r K=>K [.aj (.pair (.int .u64) (.pair (.int .u64) .unit)) r []] none))
theorem o48:aO Tryz.prog Ir:=dz Hd Tryz.f76 (fun R kk x0 x1 K=>WI x0 x1 (fun a0=>K [.aj (.pair (.int .u64) (.pair (.int .u64) .unit)) a0 []] none)) o47 (ek _ _ _ _) Tryz.func76 (by kernel_rfl) rfl (fun _ _ _ _ _ _ h=>h _ _) (fun _ _ _ _ _=>by kernel_rfl) fun R kk e x0 x1 K=>by
 simp only[tf,WI,aE]
def Hi:Env:=b9.env (fun _=>[]) (fun _=>[]) [4] [(.pair (.int .u64) (.pair (.int .u64) .unit)),(.int .i64)]
def wq:ah:=Ir.add 107 [(.pair (.int .u64) (.pair (.int .u64) .unit)),(.int .i64)] (dv (.pair (.int .u64) (.pair (.int .u64) .unit)) (.int .i64) yj (fun _ r K=>K [.aj (.pair (.int .u64) (.pair (.int .u64) .unit)) r []] none))
theorem o49:aO Tryz.prog wq:=dz Hi Tryz.f107 (fun R kk x0 x1 K=>WL x0 x1 (fun a0=>K [.aj (.pair (.int .u64) (.pair (.int .u64) .unit)) a0 []] none)) o48 (ek _ _ _ _) Tryz.func107 (by kernel_rfl) rfl (fun _ _ _ _ _ _ h=>h _ _) (fun _ _ _ _ _=>by kernel_rfl) fun R kk e x0 x1 K=>by
 simp only[yj,WL,aE]
def oO:Env:=b9.env (fun i=>bif Nat.beq i 3 then [2,3,6,7,8] else []) (fun i=>bif Nat.beq i 3 then [2,3] else []) [2] [(.sl 3 (.int .i64))]
def WE(a:(List Int))(b c:Int)(d e:aQ):Option R:=aB (ev oO (wq R) kk (sub [1,1,0,1,0,0] (cd Tryz.f74))) [2,3,6,7,8] [2,3] k ⟨uS 2 ([.ptr 3 (.pair (.int .u64) (.pair (.int .u64) .unit)) []]::[.ptr 4 (.pair (.int .u64) (.pair (.int .u64) .unit)) []]::uS 2 ([.aj (.sl 3 (.int .i64)) a []]::[tI b]::[tI c]::uS 8 [])),nS 3 ((some ⟨(.pair (.int .u64) (.pair (.int .u64) .unit)),d,[]⟩)::(some ⟨(.pair (.int .u64) (.pair (.int .u64) .unit)),e,[]⟩)::nS 13 [])⟩ J
def zp3(a b:aQ):State:=⟨uS 2 ([.ptr 3 (.pair (.int .u64) (.pair (.int .u64) .unit)) []]::[.ptr 4 (.pair (.int .u64) (.pair (.int .u64) .unit)) []]::uS 13 []),nS 3 ((some ⟨(.pair (.int .u64) (.pair (.int .u64) .unit)),a,[]⟩)::(some ⟨(.pair (.int .u64) (.pair (.int .u64) .unit)),b,[]⟩)::nS 13 [])⟩
def N9:KX R:=(zj 0 (aT oO (wq R) kk (sub [1,1,1] (cd Tryz.f74)) (aS oO Tryz.f74.results.toList none K)))
theorem anB(a:(List Int))(b c:Int)(d e:aQ):WE R kk (k+1) J a b c d e=
 Qk a b c d e (WE R kk k J) (fun a0 a1=>J (.exit 0) (zp3 a0 a1)):=by kernel_rfl
theorem aiu(a b:aQ):N9 R kk K (.exit 0) (zp3 a b)=
 WH a b (fun a0=>K [.aj (.pair (.int .u64) (.pair (.int .u64) .unit)) a0 []] none):=by kernel_rfl
theorem alx{kk:Nat}(hF:kk=ag)(t6:(List Int))(t7 t8:Int)(dB dc:aQ):WE R kk k J t6 t7 t8 dB dc=(A9 k t6 t7 t8 dB dc).bind fun e=>J (.exit 0) (zp3 e.1 e.2):=by
 induction k generalizing t6 t7 t8 dB dc with
 |zero=>rfl
 |succ k ih=>
  rw[anB]
  simp only[A9,Qk,ih,aE]
def Is:ah:=wq.add 74 [(.sl 3 (.int .i64))] (cK (.sl 3 (.int .i64)) uY (fun _ r K=>K [.aj (.pair (.int .u64) (.pair (.int .u64) .unit)) r []] none))
theorem o50:aO Tryz.prog Is:=cN oO Tryz.f74 (fun R kk x0 K=>WG x0 (WE R kk kk (N9 R kk K))) o49 (ek _ _ _ _) Tryz.func74 (by kernel_rfl) rfl (fun _ _ _ _ _ _ h=>h _ _) (fun _ _ _ _=>by kernel_rfl) fun R kk e x0 K=>by
 simp only[uY,WG,WH,alx (hF:=e),aiu,aE,<-e]
def Hc:Env:=b9.env (fun _=>[]) (fun _=>[]) [4] [(.pair (.int .u64) (.pair (.int .u64) .unit)),(.pair (.int .u64) (.pair (.int .u64) .unit))]
def mM:ah:=Is.add 75 [(.pair (.int .u64) (.pair (.int .u64) .unit)),(.pair (.int .u64) (.pair (.int .u64) .unit))] (dv (.pair (.int .u64) (.pair (.int .u64) .unit)) (.pair (.int .u64) (.pair (.int .u64) .unit)) rL (fun _ r K=>K [.aj (.pair (.int .u64) (.pair (.int .u64) .unit)) r []] none))
theorem o51:aO Tryz.prog mM:=dz Hc Tryz.f75 (fun R kk x0 x1 K=>Ql x0 x1 (fun a0=>K [.aj (.pair (.int .u64) (.pair (.int .u64) .unit)) a0 []] none)) o50 (ek _ _ _ _) Tryz.func75 (by kernel_rfl) rfl (fun _ _ _ _ _ _ h=>h _ _) (fun _ _ _ _ _=>by kernel_rfl) fun R kk e x0 x1 K=>by
 simp only[rL,Ql,aE]
def vz:Env:=b9.env (fun i=>bif Nat.beq i 2 then [3,4,5,26,27,28] else bif Nat.beq i 12 then [3,4,5,13,46,48,49,50] else bif Nat.beq i 24 then [4,5,16,17,77,78,79] else []) (fun i=>bif Nat.beq i 2 then [3,4,5,6,7,8] else bif Nat.beq i 12 then [3,4,5,6,7,8] else bif Nat.beq i 24 then [6,7,8] else []) [] [cD,aK,aK]
def U7(a:n6)(b c:Int)(d:ay)(e f:af):Option R:=aB (ev vz (mM R) kk (sub [1,0,1,0,0] (cd Tryz.f56))) [3,4,5,26,27,28] [3,4,5,6,7,8] k ⟨uS 3 ([.ptr 4 cD []]::[.ptr 5 aK []]::[.ptr 6 aK []]::uS 20 ([.aj (.sl 24 aK) a [[]]]::[tI b]::[tI c]::uS 92 [])),nS 4 ((some ⟨cD,d,[]⟩)::(some ⟨aK,e,[]⟩)::(some ⟨aK,f,[]⟩)::nS 115 [])⟩ J
def zg8(a b c:Int)(d:ay)(e f:af):State:=⟨uS 3 ([.ptr 4 cD []]::[.ptr 5 aK []]::[.ptr 6 aK []]::[tI a]::[tI b]::[tI c]::uS 112 []),nS 4 ((some ⟨cD,d,[]⟩)::(some ⟨aK,e,[]⟩)::(some ⟨aK,f,[]⟩)::nS 115 [])⟩
def zg9(a:ay)(b c:af):State:=⟨uS 3 ([.ptr 4 cD []]::[.ptr 5 aK []]::[.ptr 6 aK []]::uS 115 []),nS 4 ((some ⟨cD,a,[]⟩)::(some ⟨aK,b,[]⟩)::(some ⟨aK,c,[]⟩)::nS 115 [])⟩
def zzq:KX R:=(zj 0 (aT vz (mM R) kk (sub [1,1] (cd Tryz.f56)) (aS vz Tryz.f56.results.toList none K)))
def U8(a:aN)(b c:Int)(d:ay)(e f:af)(g:hM):Option R:=aB (ev vz (mM R) kk (sub [1,1,1,1,0,1,0,0] (cd Tryz.f56))) [3,4,5,13,46,48,49,50] [3,4,5,6,7,8] k ⟨uS 3 ([.ptr 4 cD []]::[.ptr 5 aK []]::[.ptr 6 aK []]::uS 7 ([.ptr 47 (.aJ .mp .str .bool) []]::uS 32 ([.ptr 47 (.aJ .mp .str .bool) []]::uS 1 ([.aj (.sl 109 (.pair .str (.pair .str .unit))) a []]::[tI b]::[tI c]::uS 70 [])))),nS 4 ((some ⟨cD,d,[]⟩)::(some ⟨aK,e,[]⟩)::(some ⟨aK,f,[]⟩)::nS 40 ((some ⟨(.aJ .mp .str .bool),g,[]⟩)::nS 74 []))⟩ J
def zga(a b c:Int)(d:ay)(e f:af):State:=⟨uS 3 ([.ptr 4 cD []]::[.ptr 5 aK []]::[.ptr 6 aK []]::[tI a]::[tI b]::[tI c]::uS 112 []),nS 4 ((some ⟨cD,d,[]⟩)::(some ⟨aK,e,[]⟩)::(some ⟨aK,f,[]⟩)::nS 115 [])⟩
def zgb(a:ay)(b c:af):State:=⟨uS 3 ([.ptr 4 cD []]::[.ptr 5 aK []]::[.ptr 6 aK []]::uS 115 []),nS 4 ((some ⟨cD,a,[]⟩)::(some ⟨aK,b,[]⟩)::(some ⟨aK,c,[]⟩)::nS 115 [])⟩
def zzr:KX R:=(zj 2 (aT vz (mM R) kk (sub [1,1,1,1,1] (cd Tryz.f56)) (aS vz Tryz.f56.results.toList none K)))
def U9(a:bQ)(b c:Int)(d e:af)(f g:aQ):Option R:=aB (ev vz (mM R) kk (sub [1,1,1,1,1,1,1,0,1,0,0] (cd Tryz.f56))) [4,5,16,17,77,78,79] [6,7,8] k ⟨uS 4 ([.ptr 5 aK []]::[.ptr 6 aK []]::uS 10 ([.ptr 17 (.pair (.int .u64) (.pair (.int .u64) .unit)) []]::[.ptr 18 (.pair (.int .u64) (.pair (.int .u64) .unit)) []]::uS 59 ([.aj (.sl 102 cA) a []]::[tI b]::[tI c]::uS 41 []))),nS 5 ((some ⟨aK,d,[]⟩)::(some ⟨aK,e,[]⟩)::nS 10 ((some ⟨(.pair (.int .u64) (.pair (.int .u64) .unit)),f,[]⟩)::(some ⟨(.pair (.int .u64) (.pair (.int .u64) .unit)),g,[]⟩)::nS 103 []))⟩ J
def zgc(a b c:Int):State:=⟨uS 6 ([tI a]::[tI b]::[tI c]::uS 112 []),nS 122 []⟩
def zgd:State:=⟨uS 121 [],nS 122 []⟩
def zzs:KX R:=(zj 5 (aT vz (mM R) kk (sub [1,1,1,1,1,1,1,1] (cd Tryz.f56)) (aS vz Tryz.f56.results.toList none K)))
theorem alm(a:n6)(b c:Int)(d:ay)(e f:af):U7 R kk (k+1) J a b c d e f=
 Vb a b c d e f (fun a0 a1 a2 a3 a4 a5=>J .ret (zg8 a0 a1 a2 a3 a4 a5)) (U7 R kk k J) (fun a0 a1 a2=>J (.exit 0) (zg9 a0 a1 a2)):=by kernel_rfl
theorem ae2(a b c:Int)(d:ay)(e f:af):zzq R kk K .ret (zg8 a b c d e f)=
 zzt a b c d e f (fun a0 a1 a2=>K [tI a0,tI a1,tI a2] none):=by kernel_rfl
theorem ae3(a:ay)(b c:af):zzq R kk K (.exit 0) (zg9 a b c)=
 Vc a b c (fun a0 a1 a2=>K [tI a0,tI a1,tI a2] none) (U8 R kk kk (zzr R kk K)):=by kernel_rfl
theorem aln(a:aN)(b c:Int)(d:ay)(e f:af)(g:hM):U8 R kk (k+1) J a b c d e f g=
 zzu a b c d e f g (fun a0 a1 a2 a3 a4 a5=>J .ret (zga a0 a1 a2 a3 a4 a5)) (U8 R kk k J) (fun a0 a1 a2=>J (.exit 2) (zgb a0 a1 a2)):=by kernel_rfl
theorem ae4(a b c:Int)(d:ay)(e f:af):zzr R kk K .ret (zga a b c d e f)=
 zzv a b c d e f (fun a0 a1 a2=>K [tI a0,tI a1,tI a2] none):=by kernel_rfl
theorem ae5(a:ay)(b c:af):zzr R kk K (.exit 2) (zgb a b c)=
 Vd a b c (fun a0 a1 a2=>K [tI a0,tI a1,tI a2] none) (U9 R kk kk (zzs R kk K)):=by kernel_rfl
theorem alo(a:bQ)(b c:Int)(d e:af)(f g:aQ):U9 R kk (k+1) J a b c d e f g=
 zzw a b c d e f g (fun a0 a1 a2=>J .ret (zgc a0 a1 a2)) (U9 R kk k J) (J (.exit 5) (zgd)):=by kernel_rfl
theorem ae6(a b c:Int):zzs R kk K .ret (zgc a b c)=
 zzx a b c (fun a0 a1 a2=>K [tI a0,tI a1,tI a2] none):=by kernel_rfl
theorem ae7:zzs R kk K (.exit 5) (zgd)=
 zzy (fun a0 a1 a2=>K [tI a0,tI a1,tI a2] none):=by kernel_rfl
theorem aij{kk:Nat}(hF:kk=ag)(t26:n6)(t27 t28:Int)(dc:ay)(cP dV:af):U7 R kk k J t26 t27 t28 dc cP dV=(Gi k t26 t27 t28 dc cP dV).bind fun e=>(Sum.elim (fun(we:lL)=>J .ret (zg8 we.1 we.2.1 we.2.2.1 we.2.2.2.1 we.2.2.2.2.1 we.2.2.2.2.2)) (fun(we:lK)=>J (.exit 0) (zg9 we.1 we.2.1 we.2.2)) e):=by
 induction k generalizing t26 t27 t28 dc cP dV with
 |zero=>rfl
 |succ k ih=>
  rw[alm]
  simp only[Gi,Vb,ih,aE]
theorem aik{kk:Nat}(hF:kk=ag)(t48:aN)(t49 t50:Int)(dc:ay)(cP dV:af)(Bz:hM):U8 R kk k J t48 t49 t50 dc cP dV Bz=(Gj k t48 t49 t50 dc cP dV Bz).bind fun e=>(Sum.elim (fun(we:lL)=>J .ret (zga we.1 we.2.1 we.2.2.1 we.2.2.2.1 we.2.2.2.2.1 we.2.2.2.2.2)) (fun(we:lK)=>J (.exit 2) (zgb we.1 we.2.1 we.2.2)) e):=by
 induction k generalizing t48 t49 t50 dc cP dV Bz with
 |zero=>rfl
 |succ k ih=>
  rw[aln]
  simp only[Gj,zzu,ih,aE]
theorem ail{kk:Nat}(hF:kk=ag)(t77:bQ)(t78 t79:Int)(cP dV:af)(jR BA:aQ):U9 R kk k J t77 t78 t79 cP dV jR BA=(PX k t77 t78 t79 cP dV jR BA).bind fun e=>(Sum.elim (fun(we:jl)=>J .ret (zgc we.1 we.2.1 we.2.2)) (fun(we:Unit)=>J (.exit 5) (zgd)) e):=by
 induction k generalizing t77 t78 t79 cP dV jR BA with
 |zero=>rfl
 |succ k ih=>
  rw[alo]
  simp only[PX,zzw,ih,aE]
def wu:ah:=mM.add 56 [cD,aK,aK] (kh cD aK aK qI (fun _ r K=>K [tI r.1,tI r.2.1,tI r.2.2] none))
theorem o52:aO Tryz.prog wu:=ku vz Tryz.f56 (fun R kk x0 x1 x2 K=>Va x0 x1 x2 (U7 R kk kk (zzq R kk K))) o51 (ek _ _ _ _) Tryz.func56 (by kernel_rfl) rfl (fun _ _ _ _ _ _ h=>h _ _) (fun _ _ _ _ _ _=>by kernel_rfl) fun R kk e x0 x1 x2 K=>by
 simp only[qI,Va,zzt,Vc,zzv,Vd,zzx,zzy,aij (hF:=e),aik (hF:=e),ail (hF:=e),ae2,ae3,ae4,ae5,ae6,ae7,aE,<-e]
def Wa:Env:=b9.env (fun i=>bif Nat.beq i 4 then [1,22,23] else []) (fun i=>bif Nat.beq i 4 then [2,3,4] else []) [] [bM]
def Uk(a:mO)(b:Int)(c:av):Option R:=aB (ev Wa (wu R) kk (sub [1,1,0,1,0,0] (cd Tryz.f36))) [1,22,23] [2,3,4] k ⟨uS 1 ([.ptr 2 bM []]::uS 20 ([.aj (.arr 2 cw) a []]::[tI b]::uS 33 [])),nS 2 ((some ⟨bM,c,[]⟩)::nS 55 [])⟩ J
def zfl(a b c:Int):State:=⟨uS 2 ([tI a]::[tI b]::[tI c]::uS 52 []),nS 58 []⟩
def zfm:State:=⟨uS 57 [],nS 58 []⟩
def zys:KX R:=(zj 0 (aT Wa (wu R) kk (sub [1,1,1] (cd Tryz.f36)) (aS Wa Tryz.f36.results.toList none K)))
theorem ak6(a:mO)(b:Int)(c:av):Uk R kk (k+1) J a b c=
 Gd a b c (fun a0 a1 a2=>J .ret (zfl a0 a1 a2)) (Uk R kk k J) (J (.exit 0) (zfm)):=by kernel_rfl
theorem aeH(a b c:Int):zys R kk K .ret (zfl a b c)=
 zyt a b c (fun a0 a1 a2=>K [tI a0,tI a1,tI a2] none):=by kernel_rfl
theorem aeI:zys R kk K (.exit 0) (zfm)=
 zyu (fun a0 a1 a2=>K [tI a0,tI a1,tI a2] none):=by kernel_rfl
theorem ah2{kk:Nat}(hF:kk=ag)(t22:mO)(t23:Int)(cX:av):Uk R kk k J t22 t23 cX=(EP k t22 t23 cX).bind fun e=>(Sum.elim (fun(we:jl)=>J .ret (zfl we.1 we.2.1 we.2.2)) (fun(we:Unit)=>J (.exit 0) (zfm)) e):=by
 induction k generalizing t22 t23 cX with
 |zero=>rfl
 |succ k ih=>
  rw[ak6]
  simp only[EP,Gd,ih,aE]
def wv:ah:=wu.add 36 [bM] (cK bM qG (fun _ r K=>K [tI r.1,tI r.2.1,tI r.2.2] none))
theorem o53:aO Tryz.prog wv:=cN Wa Tryz.f36 (fun R kk x0 K=>Ul x0 (fun a0 a1 a2=>K [tI a0,tI a1,tI a2] none) (Uk R kk kk (zys R kk K))) o52 (ek _ _ _ _) Tryz.func36 (by kernel_rfl) rfl (fun _ _ _ _ _ _ h=>h _ _) (fun _ _ _ _=>by kernel_rfl) fun R kk e x0 K=>by
 simp only[qG,Ul,zyt,zyu,ah2 (hF:=e),aeH,aeI,aE,<-e]
def oW:Env:=b9.env (fun i=>bif Nat.beq i 5 then [1,2,3,25,26,27] else []) (fun i=>bif Nat.beq i 5 then [1,2,3] else []) [2] [cw]
def W5(a b:bQ)(c d:Int)(e f:ar):Option R:=aB (ev oW (wv R) kk (sub [1,1,1,1,0,1,0,0] (cd Tryz.f37))) [1,2,3,25,26,27] [1,2,3] k ⟨uS 1 ([.ptr 2 cw []]::[.ptr 3 cw []]::[.aj (.sl 102 cA) a [[]]]::uS 21 ([.aj (.sl 102 cA) b []]::[tI c]::[tI d]::uS 24 [])),nS 2 ((some ⟨cw,e,[[0,2],[1,0]]⟩)::(some ⟨cw,f,[[0,2],[1,0],[1,1],[2],[3]]⟩)::nS 49 [])⟩ J
def zp9(a:bQ)(b c:ar):State:=⟨uS 1 ([.ptr 2 cw []]::[.ptr 3 cw []]::[.aj (.sl 102 cA) a [[]]]::uS 48 []),nS 2 ((some ⟨cw,b,[[0,2],[1,0]]⟩)::(some ⟨cw,c,[[0,2],[1,0],[1,1],[2],[3]]⟩)::nS 49 [])⟩
def Od:KX R:=(zj 0 (aT oW (wv R) kk (sub [1,1,1,1,1] (cd Tryz.f37)) (aS oW Tryz.f37.results.toList none K)))
theorem anH(a b:bQ)(c d:Int)(e f:ar):W5 R kk (k+1) J a b c d e f=
 z156 a b c d e f (W5 R kk k J) (fun a0 a1 a2=>J (.exit 0) (zp9 a0 a1 a2)):=by kernel_rfl
theorem aiA(a:bQ)(b c:ar):Od R kk K (.exit 0) (zp9 a b c)=
 W7 a b c (fun a0=>K [.aj cw a0 [[3],[2],[0,2],[1,0]]] none):=by kernel_rfl
theorem alD{kk:Nat}(hF:kk=ag)(t3 t25:bQ)(t26 t27:Int)(cX dB:ar):W5 R kk k J t3 t25 t26 t27 cX dB=(Qp k t3 t25 t26 t27 cX dB).bind fun e=>J (.exit 0) (zp9 e.1 e.2.1 e.2.2):=by
 induction k generalizing t3 t25 t26 t27 cX dB with
 |zero=>rfl
 |succ k ih=>
  rw[anH]
  simp only[Qp,z156,ih,aE]
def Iu:ah:=wv.add 37 [cw] (cK cw Hx (fun _ r K=>K [.aj cw r [[3],[2],[0,2],[1,0]]] none))
theorem o54:aO Tryz.prog Iu:=cN oW Tryz.f37 (fun R kk x0 K=>W6 x0 (W5 R kk kk (Od R kk K))) o53 (ek _ _ _ _) Tryz.func37 (by kernel_rfl) rfl (fun _ _ _ _ _ _ h=>h _ _) (fun _ _ _ _=>by kernel_rfl) fun R kk e x0 K=>by
 simp only[Hx,W6,W7,alD (hF:=e),aiA,aE,<-e]
def Hp:Env:=e0 [(.int .i64)]
def ww:ah:=Iu.add 38 [(.int .i64)] (cK (.int .i64) Ho (fun _ r K=>(Sum.elim (fun(wr:Int)=>K [.dN,tI wr] none) (fun(wr:tm)=>K [.ptr 0 y6 [],tI wr.1] (some ⟨y6,wr.2,[[2]]⟩)) r)))
theorem o55:aO Tryz.prog ww:=cN Hp Tryz.f38 (fun R kk x0 K=>WT x0 (fun a0=>K [.dN,tI a0] none) (fun a0 a1=>K [.ptr 0 y6 [],tI a0] (some ⟨y6,a1,[[2]]⟩))) o54 (ek _ _ _ _) Tryz.func38 (by kernel_rfl) rfl (fun _ _ _ _ _ _ h=>Qc (fun _=>h _ _) (fun _=>h _ _)) (fun _ _ _ _=>by kernel_rfl) fun R kk e x0 K=>by
 simp only[Ho,WT,aE]
def oV:Env:={{b9.env (fun i=>bif Nat.beq i 6 then [1,7,19,20] else []) (fun i=>bif Nat.beq i 6 then [7,19] else []) [] [bM] with sg:=some (4,9,7)} with gr:=fun t=>bif Nat.beq t 87 then some (bM,y6) else none,ga:=fun t=>Nat.beq t 85}
def W0(a:Int)(b:av)(c:(av×(Option al×Option al)×Int)):Option R:=aB (ev oV (ww R) kk (sub [1,1,1,0,1,0,0] (cd Tryz.f12))) [1,7,19,20] [7,19] k ⟨uS 1 ([.ptr 2 bM []]::uS 5 ([.ptr 20 (.aJ .bN bM y6) []]::uS 12 ([tI a]::uS 26 []))),nS 2 ((some ⟨bM,b,[]⟩)::nS 17 ((some ⟨(.aJ .bN bM y6),c,[[],[0],[0,2],[1],[1,2]]⟩)::nS 27 []))⟩ J
def zp8(a:(av×(Option al×Option al)×Int)):State:=⟨uS 7 ([.ptr 20 (.aJ .bN bM y6) []]::uS 39 []),nS 20 ((some ⟨(.aJ .bN bM y6),a,[[],[0],[0,2],[1],[1,2]]⟩)::nS 27 [])⟩
def Oc:KX R:=(zj 0 (aT oV (ww R) kk (sub [1,1,1,1] (cd Tryz.f12)) (aS oV Tryz.f12.results.toList none K)))
theorem anG(a:Int)(b:av)(c:(av×(Option al×Option al)×Int)):W0 R kk (k+1) J a b c=
 Gv a b c (W0 R kk k J) (fun a0=>J (.exit 0) (zp8 a0)):=by kernel_rfl
theorem aiz(a:(av×(Option al×Option al)×Int)):Oc R kk K (.exit 0) (zp8 a)=
 Dx a (fun a0 a1=>K [.ptr 0 (.aJ .bN bM y6) [],tI a0] (some ⟨(.aJ .bN bM y6),a1,[[],[0],[0,2],[1],[1,2]]⟩)):=by kernel_rfl
theorem alC{kk:Nat}(hF:kk=ag)(t20:Int)(cX:av)(lN:(av×(Option al×Option al)×Int)):W0 R kk k J t20 cX lN=(E6 k t20 cX lN).bind fun e=>J (.exit 0) (zp8 e):=by
 induction k generalizing t20 cX lN with
 |zero=>rfl
 |succ k ih=>
  rw[anG]
  simp only[E6,Gv,ih,aE]
def Iv:ah:=ww.add 12 [bM] (cK bM yl (fun _ r K=>(Sum.elim (fun(wr:Int)=>K [.dN,tI wr] none) (fun(wr:(Int×(av×(Option al×Option al)×Int)))=>K [.ptr 0 (.aJ .bN bM y6) [],tI wr.1] (some ⟨(.aJ .bN bM y6),wr.2,[[],[0],[0,2],[1],[1,2]]⟩)) r)))
theorem o56:aO Tryz.prog Iv:=cN oV Tryz.f12 (fun R kk x0 K=>W3 x0 (fun a0=>K [.dN,tI a0] none) (W0 R kk kk (Oc R kk K))) o55 (((ek _ _ _ _).sg _).bN 87 85 bM y6 (by kernel_rfl) (by kernel_rfl) (by kernel_rfl) (by kernel_rfl)) Tryz.func12 (by kernel_rfl) rfl (fun _ _ _ _ _ _ h=>Qc (fun _=>h _ _) (fun _=>h _ _)) (fun _ _ _ _=>by kernel_rfl) fun R kk e x0 K=>by
 simp only[yl,W3,Dx,alC (hF:=e),aiz,aE,<-e]
def Hw:Env:=e0 [(.int .i64)]
def Iw:ah:=Iv.add 42 [(.int .i64)] (cK (.int .i64) Bp (fun _ r K=>K [tB r] none))
theorem o57:aO Tryz.prog Iw:=cN Hw Tryz.f42 (fun R kk x0 K=>W4 x0 (fun a0=>K [tB a0] none)) o56 (ek _ _ _ _) Tryz.func42 (by kernel_rfl) rfl (fun _ _ _ _ _ _ h=>h _ _) (fun _ _ _ _=>by kernel_rfl) fun R kk e x0 K=>by
 simp only[Bp,W4,aE]
def Hn:Env:=e0 [.unit]
def wy:ah:=Iw.add 62 [.unit] (FI y6 [[2]] Hm (fun _ r K=>K [tI r.1] (some ⟨y6,r.2,[[2]]⟩)))
theorem o58:aO Tryz.prog wy:=RJ Hn Tryz.f62 (fun R kk x0 K=>WS x0 (fun a0 a1=>K [tI a0] (some ⟨y6,a1,[[2]]⟩))) o57 (ek _ _ _ _) Tryz.func62 (by kernel_rfl) rfl (fun _ _ _ _ _ _ h=>h _ _) (fun _ _ _ _=>by kernel_rfl) fun R kk e x0 K=>by
 simp only[Hm,WS,aE]
def oQ:Env:=b9.env (fun i=>bif Nat.beq i 3 then [0,1,6,7] else []) (fun i=>bif Nat.beq i 3 then [4,5,6] else []) [] [.unit,.str]
def WN(a:ByteArray)(b:(List ByteArray))(c:Int)(d:al):Option R:=aB (ev oQ (wy R) kk (sub [1,1,0,1,0,0] (cd Tryz.f45))) [0,1,6,7] [4,5,6] k ⟨[.ptr 0 y6 []]::[tS a]::uS 4 ([.aj (.sl 9 .str) b [[]]]::[tI c]::uS 80 []),(some ⟨y6,d,[[2]]⟩)::nS 88 []⟩ J
def zp4(a:(List ByteArray))(b:Bool)(c:(List ByteArray))(d:al):State:=⟨uS 4 ([.aj (.sl 9 .str) a []]::[tB b]::[.aj (.sl 9 .str) c [[]]]::uS 81 []),(some ⟨y6,d,[[2]]⟩)::nS 88 []⟩
def zp5(a:(List ByteArray))(b:al):State:=⟨uS 6 ([.aj (.sl 9 .str) a [[]]]::uS 81 []),(some ⟨y6,b,[[2]]⟩)::nS 88 []⟩
def Dr(a:al):KX R:=(zj 0 (aT oQ (wy R) kk (sub [1,1,1] (cd Tryz.f45)) (aS oQ Tryz.f45.results.toList (some ⟨y6,a,[[2]]⟩) K)))
theorem anC(a:ByteArray)(b:(List ByteArray))(c:Int)(d:al):WN R kk (k+1) J a b c d=
 Qm a b c d (fun a0 a1 a2 a3=>J .ret (zp4 a0 a1 a2 a3)) (WN R kk k J) (fun a0 a1=>J (.exit 0) (zp5 a0 a1)):=by kernel_rfl
theorem aiv(a:al)(b:(List ByteArray))(c:Bool)(d:(List ByteArray))(e:al):Dr R kk K a .ret (zp4 b c d e)=
 WQ b c d e (fun a0 a1 a2=>K [.aj (.sl 9 .str) a0 [],tB a1] (some ⟨y6,a2,[[2]]⟩)):=by kernel_rfl
theorem aiw(a:al)(b:(List ByteArray))(c:al):Dr R kk K a (.exit 0) (zp5 b c)=
 WR b c (fun a0 a1 a2=>K [.aj (.sl 9 .str) a0 [],tB a1] (some ⟨y6,a2,[[2]]⟩)):=by kernel_rfl
theorem aly{kk:Nat}(hF:kk=ag)(lP:ByteArray)(t6:(List ByteArray))(t7:Int)(recv:al):WN R kk k J lP t6 t7 recv=(E5 k lP t6 t7 recv).bind fun e=>(Sum.elim (fun(we:((List ByteArray)×Bool×(List ByteArray)×al))=>J .ret (zp4 we.1 we.2.1 we.2.2.1 we.2.2.2)) (fun(we:((List ByteArray)×al))=>J (.exit 0) (zp5 we.1 we.2)) e):=by
 induction k generalizing lP t6 t7 recv with
 |zero=>rfl
 |succ k ih=>
  rw[anC]
  simp only[E5,Qm,ih,aE]
def Ix:ah:=wy.add 45 [.unit,.str] (Co y6 [[2]] .str Bm (fun _ r K=>K [.aj (.sl 9 .str) r.1 [],tB r.2.1] (some ⟨y6,r.2.2,[[2]]⟩)))
theorem o59:aO Tryz.prog Ix:=Kl oQ Tryz.f45 (fun R kk x0 x1 K=>WO x0 x1 (WN R kk kk (Dr R kk K x0))) o58 (ek _ _ _ _) Tryz.func45 (by kernel_rfl) rfl (fun _ _ _ _ _ _ h=>h _ _) (fun _ _ _ _ _=>by kernel_rfl) fun R kk e x0 x1 K=>by
 simp only[Bm,WO,WQ,WR,aly (hF:=e),aiv,aiw,aE,<-e]
def XY:Env:=e0 [(.int .i64)]
def wA:ah:=Ix.add 177 [(.int .i64)] (cK (.int .i64) Q2 (fun _ r K=>K [tI r] none))
theorem o60:aO Tryz.prog wA:=cN XY Tryz.f177 (fun R kk x0 K=>oP x0 (fun a0=>K [tI a0] none)) o59 (ek _ _ _ _) Tryz.func177 (by kernel_rfl) rfl (fun _ _ _ _ _ _ h=>h _ _) (fun _ _ _ _=>by kernel_rfl) fun R kk e x0 K=>by
 simp only[Q2,oP,aE]
def vE:Env:=b9.env (fun i=>bif Nat.beq i 7 then [0,1,7,30,31] else []) (fun i=>bif Nat.beq i 7 then [1,4,5,6,7] else []) [] [.str,(.int .i64)]
def oE(a:ByteArray)(b:Int)(c:(List Int))(d e:Int):Option R:=aB (ev vE (wA R) kk (sub [1,1,1,0,1,0,0] (cd Tryz.f178))) [0,1,7,30,31] [1,4,5,6,7] k ⟨[tS a]::[tI b]::uS 5 ([.aj (.sl 5 (.int .u8)) c [[]]]::uS 22 ([tI d]::[tI e]::uS 43 [])),nS 76 []⟩ J
def zvz(a:Int)(b:ByteArray)(c d:Int)(e:(List Int)):State:=⟨uS 1 ([tI a]::uS 2 ([tS b]::[tI c]::[tI d]::[.aj (.sl 5 (.int .u8)) e [[]]]::uS 67 [])),nS 76 []⟩
def zw0(a:Int)(b:(List Int)):State:=⟨uS 1 ([tI a]::uS 5 ([.aj (.sl 5 (.int .u8)) b [[]]]::uS 67 [])),nS 76 []⟩
def sj:KX R:=(zj 1 (aT vE (wA R) kk (sub [1,1,1,1] (cd Tryz.f178)) (aS vE Tryz.f178.results.toList none K)))
theorem GO(a:ByteArray)(b:Int)(c:(List Int))(d e:Int):oE R kk (k+1) J a b c d e=
 mA a b c d e (fun a0 a1 a2 a3 a4=>J .ret (zvz a0 a1 a2 a3 a4)) (oE R kk k J) (fun a0 a1=>J (.exit 1) (zw0 a0 a1)):=by kernel_rfl
theorem aku(a:Int)(b:ByteArray)(c d:Int)(e:(List Int)):sj R kk K .ret (zvz a b c d e)=
 sk a b c d e (fun a0 a1 a2=>K [tS a0,tI a1,tI a2] none):=by kernel_rfl
theorem akv(a:Int)(b:(List Int)):sj R kk K (.exit 1) (zw0 a b)=
 oG a b (fun a0 a1 a2=>K [tS a0,tI a1,tI a2] none):=by kernel_rfl
theorem amG{kk:Nat}(hF:kk=ag)(n8:ByteArray)(l6:Int)(t7:(List Int))(t30 t31:Int):oE R kk k J n8 l6 t7 t30 t31=(iR k n8 l6 t7 t30 t31).bind fun e=>(Sum.elim (fun(we:(Int×ByteArray×Int×Int×(List Int)))=>J .ret (zvz we.1 we.2.1 we.2.2.1 we.2.2.2.1 we.2.2.2.2)) (fun(we:(Int×(List Int)))=>J (.exit 1) (zw0 we.1 we.2)) e):=by
 induction k generalizing n8 l6 t7 t30 t31 with
 |zero=>rfl
 |succ k ih=>
  rw[GO]
  simp only[iR,mA,ih,aE]
def Iy:ah:=wA.add 178 [.str,(.int .i64)] (dv .str (.int .i64) Q0 (fun _ r K=>K [tS r.1,tI r.2.1,tI r.2.2] none))
theorem o61:aO Tryz.prog Iy:=dz vE Tryz.f178 (fun R kk x0 x1 K=>oF x0 x1 (fun a0 a1 a2=>K [tS a0,tI a1,tI a2] none) (oE R kk kk (sj R kk K))) o60 (ek _ _ _ _) Tryz.func178 (by kernel_rfl) rfl (fun _ _ _ _ _ _ h=>h _ _) (fun _ _ _ _ _=>by kernel_rfl) fun R kk e x0 x1 K=>by
 simp only[Q0,oF,sk,oG,amG (hF:=e),aku,akv,aE,<-e]
def ann:Env:=e0 [aK,.str]
def Iz:ah:=Iy.add 129 [aK,.str] (dv aK .str s6 (fun _ r K=>K [tS r.1,tI r.2.1,tI r.2.2] none))
theorem o62:aO Tryz.prog Iz:=dz ann Tryz.f129 (fun R kk x0 x1 K=>UN x0 x1 (fun a0 a1 a2=>K [tS a0,tI a1,tI a2] none)) o61 (ek _ _ _ _) Tryz.func129 (by kernel_rfl) rfl (fun _ _ _ _ _ _ h=>h _ _) (fun _ _ _ _ _=>by kernel_rfl) fun R kk e x0 x1 K=>by
 simp only[s6,UN,aE]
def X8:Env:=e0 [(.int .i64)]
def IA:ah:=Iz.add 169 [(.int .i64)] (cK (.int .i64) Q9 (fun _ r K=>K [tB r] none))
theorem o63:aO Tryz.prog IA:=cN X8 Tryz.f169 (fun R kk x0 K=>mL x0 (fun a0=>K [tB a0] none)) o62 (ek _ _ _ _) Tryz.func169 (by kernel_rfl) rfl (fun _ _ _ _ _ _ h=>h _ _) (fun _ _ _ _=>by kernel_rfl) fun R kk e x0 K=>by
 simp only[Q9,mL,aE]
def amS:Env:=e0 [(.int .u8)]
def wC:ah:=IA.add 214 [(.int .u8)] (cK (.int .u8) sJ (fun _ r K=>K [tI r.1,tB r.2] none))
theorem o64:aO Tryz.prog wC:=cN amS Tryz.f214 (fun R kk x0 K=>zxw x0 (fun a0 a1=>K [tI a0,tB a1] none)) o63 (ek _ _ _ _) Tryz.func214 (by kernel_rfl) rfl (fun _ _ _ _ _ _ h=>h _ _) (fun _ _ _ _=>by kernel_rfl) fun R kk e x0 K=>by
 simp only[sJ,zxw,aE]
def VY:Env:=b9.env (fun i=>bif Nat.beq i 4 then [0,5,6,7] else []) (fun i=>bif Nat.beq i 4 then [0,2,3,4,5] else []) [] [.str]
def TG(a:ByteArray)(b:(List Int))(c d:Int):Option R:=aB (ev VY (wC R) kk (sub [1,1,1,0,1,0,0] (cd Tryz.f184))) [0,5,6,7] [0,2,3,4,5] k ⟨[tS a]::uS 4 ([.aj (.sl 5 (.int .u8)) b [[]]]::[tI c]::[tI d]::uS 44 []),nS 53 []⟩ J
def zf1(a b:ByteArray)(c:Int)(d:Bool)(e:(List Int)):State:=⟨[tS a]::uS 1 ([tS b]::[tI c]::[tB d]::[.aj (.sl 5 (.int .u8)) e [[]]]::uS 46 []),nS 53 []⟩
def zf2(a:ByteArray)(b:(List Int)):State:=⟨[tS a]::uS 4 ([.aj (.sl 5 (.int .u8)) b [[]]]::uS 46 []),nS 53 []⟩
def zxx:KX R:=(zj 0 (aT VY (wC R) kk (sub [1,1,1,1] (cd Tryz.f184)) (aS VY Tryz.f184.results.toList none K)))
theorem akT(a:ByteArray)(b:(List Int))(c d:Int):TG R kk (k+1) J a b c d=
 PC a b c d (fun a0 a1 a2 a3 a4=>J .ret (zf1 a0 a1 a2 a3 a4)) (TG R kk k J) (fun a0 a1=>J (.exit 0) (zf2 a0 a1)):=by kernel_rfl
theorem aeo(a b:ByteArray)(c:Int)(d:Bool)(e:(List Int)):zxx R kk K .ret (zf1 a b c d e)=
 zxy a b c d e (fun a0 a1 a2=>K [tS a0,tI a1,tB a2] none):=by kernel_rfl
theorem aep(a:ByteArray)(b:(List Int)):zxx R kk K (.exit 0) (zf2 a b)=
 TI a b (fun a0 a1 a2=>K [tS a0,tI a1,tB a2] none):=by kernel_rfl
theorem ahO{kk:Nat}(hF:kk=ag)(iM:ByteArray)(t5:(List Int))(t6 t7:Int):TG R kk k J iM t5 t6 t7=(EL k iM t5 t6 t7).bind fun e=>(Sum.elim (fun(we:(ByteArray×ByteArray×Int×Bool×(List Int)))=>J .ret (zf1 we.1 we.2.1 we.2.2.1 we.2.2.2.1 we.2.2.2.2)) (fun(we:(ByteArray×(List Int)))=>J (.exit 0) (zf2 we.1 we.2)) e):=by
 induction k generalizing iM t5 t6 t7 with
 |zero=>rfl
 |succ k ih=>
  rw[akT]
  simp only[EL,PC,ih,aE]
def IB:ah:=wC.add 184 [.str] (cK .str gG (fun _ r K=>K [tS r.1,tI r.2.1,tB r.2.2] none))
theorem o65:aO Tryz.prog IB:=cN VY Tryz.f184 (fun R kk x0 K=>TH x0 (TG R kk kk (zxx R kk K))) o64 (ek _ _ _ _) Tryz.func184 (by kernel_rfl) rfl (fun _ _ _ _ _ _ h=>h _ _) (fun _ _ _ _=>by kernel_rfl) fun R kk e x0 K=>by
 simp only[gG,TH,zxy,TI,ahO (hF:=e),aeo,aep,aE,<-e]
def GQ:Env:=b9.env (fun _=>[]) (fun _=>[]) [6] [(.int .i64),.str,(.int .i64)]
def wD:ah:=IB.add 179 [(.int .i64),.str,(.int .i64)] (kh (.int .i64) .str (.int .i64) Fg (fun _ r K=>K [.aj (.arr 8 (.int .u8)) r.1 [],tI r.2.1,tI r.2.2] none))
theorem o66:aO Tryz.prog wD:=ku GQ Tryz.f179 (fun R kk x0 x1 x2 K=>VF x0 x1 x2 (fun a0 a1 a2=>K [.aj (.arr 8 (.int .u8)) a0 [],tI a1,tI a2] none)) o65 (ek _ _ _ _) Tryz.func179 (by kernel_rfl) rfl (fun _ _ _ _ _ _ h=>h _ _) (fun _ _ _ _ _ _=>by kernel_rfl) fun R kk e x0 x1 x2 K=>by
 simp only[Fg,VF,aE]
def vQ:Env:=b9.env (fun i=>bif Nat.beq i 3 then [3,6,7] else []) (fun i=>bif Nat.beq i 3 then [3] else []) [] [(.arr 8 (.int .u8))]
def pj(a:Int)(b:(List Int))(c:Int):Option R:=aB (ev vQ (wD R) kk (sub [1,1,0,1,0,0] (cd Tryz.f180))) [3,6,7] [3] k ⟨uS 3 ([.aj (.int .u64) a []]::uS 2 ([.aj (.arr 8 (.int .u8)) b []]::[tI c]::uS 9 [])),nS 18 []⟩ J
def CL(a:Int):State:=⟨uS 3 ([.aj (.int .u64) a []]::uS 13 []),nS 18 []⟩
def yn:KX R:=(zj 0 (aT vQ (wD R) kk (sub [1,1,1] (cd Tryz.f180)) (aS vQ Tryz.f180.results.toList none K)))
theorem HH(a:Int)(b:(List Int))(c:Int):pj R kk (k+1) J a b c=
 mI a b c (pj R kk k J) (fun a0=>J (.exit 0) (CL a0)):=by kernel_rfl
theorem alL(a:Int):yn R kk K (.exit 0) (CL a)=
 ti a (fun a0=>K [.aj (.int .u64) a0 []] none):=by kernel_rfl
theorem anP{kk:Nat}(hF:kk=ag)(t3:Int)(t6:(List Int))(t7:Int):pj R kk k J t3 t6 t7=(jM k t3 t6 t7).bind fun e=>J (.exit 0) (CL e):=by
 induction k generalizing t3 t6 t7 with
 |zero=>rfl
 |succ k ih=>
  rw[HH]
  simp only[jM,mI,ih,aE]
def IC:ah:=wD.add 180 [(.arr 8 (.int .u8))] (cK (.arr 8 (.int .u8)) Q7 (fun _ r K=>K [.aj (.int .u64) r []] none))
theorem o67:aO Tryz.prog IC:=cN vQ Tryz.f180 (fun R kk x0 K=>pk x0 (pj R kk kk (yn R kk K))) o66 (ek _ _ _ _) Tryz.func180 (by kernel_rfl) rfl (fun _ _ _ _ _ _ h=>h _ _) (fun _ _ _ _=>by kernel_rfl) fun R kk e x0 K=>by
 simp only[Q7,pk,ti,anP (hF:=e),alL,aE,<-e]
def Hb:Env:=b9.env (fun _=>[]) (fun _=>[]) [4] [(.int .u64),(.int .u64)]
def ID:ah:=IC.add 181 [(.int .u64),(.int .u64)] (dv (.int .u64) (.int .u64) QP (fun _ r K=>K [.aj (.pair (.int .u64) (.pair (.int .u64) .unit)) r []] none))
theorem o68:aO Tryz.prog ID:=dz Hb Tryz.f181 (fun R kk x0 x1 K=>Dn x0 x1 (fun a0=>K [.aj (.pair (.int .u64) (.pair (.int .u64) .unit)) a0 []] none)) o67 (ek _ _ _ _) Tryz.func181 (by kernel_rfl) rfl (fun _ _ _ _ _ _ h=>h _ _) (fun _ _ _ _ _=>by kernel_rfl) fun R kk e x0 x1 K=>by
 simp only[QP,Dn,aE]
def X4:Env:=b9.env (fun _=>[]) (fun _=>[]) [6] [(.int .i64),.str,(.int .i64)]
def IE:ah:=ID.add 130 [(.int .i64),.str,(.int .i64)] (kh (.int .i64) .str (.int .i64) Q5 (fun _ r K=>K [.aj (.pair (.int .u64) (.pair (.int .u64) .unit)) r.1 [],tI r.2.1,tI r.2.2] none))
theorem o69:aO Tryz.prog IE:=ku X4 Tryz.f130 (fun R kk x0 x1 x2 K=>pa x0 x1 x2 (fun a0 a1 a2=>K [.aj (.pair (.int .u64) (.pair (.int .u64) .unit)) a0 [],tI a1,tI a2] none)) o68 (ek _ _ _ _) Tryz.func130 (by kernel_rfl) rfl (fun _ _ _ _ _ _ h=>h _ _) (fun _ _ _ _ _ _=>by kernel_rfl) fun R kk e x0 x1 x2 K=>by
 simp only[Q5,pa,aE]
def amV:Env:=e0 [(.int .u64)]
def IF:ah:=IE.add 212 [(.int .u64)] (cK (.int .u64) sK (fun _ r K=>K [tI r] none))
theorem o70:aO Tryz.prog IF:=cN amV Tryz.f212 (fun R kk x0 K=>zy0 x0 (fun a0=>K [tI a0] none)) o69 (ek _ _ _ _) Tryz.func212 (by kernel_rfl) rfl (fun _ _ _ _ _ _ h=>h _ _) (fun _ _ _ _=>by kernel_rfl) fun R kk e x0 K=>by
 simp only[sK,zy0,aE]
def amU:Env:=e0 [(.int .u64)]
def IG:ah:=IF.add 182 [(.int .u64)] (cK (.int .u64) mE (fun _ r K=>K [tI r] none))
theorem o71:aO Tryz.prog IG:=cN amU Tryz.f182 (fun R kk x0 K=>TL x0 (fun a0=>K [tI a0] none)) o70 (ek _ _ _ _) Tryz.func182 (by kernel_rfl) rfl (fun _ _ _ _ _ _ h=>h _ _) (fun _ _ _ _=>by kernel_rfl) fun R kk e x0 K=>by
 simp only[mE,TL,aE]
def Hh:Env:=e0 [(.pair (.int .u64) (.pair (.int .u64) .unit)),(.int .i64)]
def II:ah:=IG.add 131 [(.pair (.int .u64) (.pair (.int .u64) .unit)),(.int .i64)] (dv (.pair (.int .u64) (.pair (.int .u64) .unit)) (.int .i64) Fh (fun _ r K=>K [tI r] none))
theorem o72:aO Tryz.prog II:=dz Hh Tryz.f131 (fun R kk x0 x1 K=>WK x0 x1 (fun a0=>K [tI a0] none)) o71 (ek _ _ _ _) Tryz.func131 (by kernel_rfl) rfl (fun _ _ _ _ _ _ h=>h _ _) (fun _ _ _ _ _=>by kernel_rfl) fun R kk e x0 x1 K=>by
 simp only[Fh,WK,aE]
def GY:Env:=e0 [(.int .i64)]
def IJ:ah:=II.add 174 [(.int .i64)] (cK (.int .i64) Bj (fun _ r K=>K [tB r] none))
theorem o73:aO Tryz.prog IJ:=cN GY Tryz.f174 (fun R kk x0 K=>Qf x0 (fun a0=>K [tB a0] none)) o72 (ek _ _ _ _) Tryz.func174 (by kernel_rfl) rfl (fun _ _ _ _ _ _ h=>h _ _) (fun _ _ _ _=>by kernel_rfl) fun R kk e x0 K=>by
 simp only[Bj,Qf,aE]
def am4:Env:=e0 [(.int .i64),(.int .i64)]
def wE:ah:=IJ.add 210 [(.int .i64),(.int .i64)] (dv (.int .i64) (.int .i64) qE (fun _ r K=>K [tB r] none))
theorem o74:aO Tryz.prog wE:=dz am4 Tryz.f210 (fun R kk x0 x1 K=>PI x0 x1 (fun a0=>K [tB a0] none)) o73 (ek _ _ _ _) Tryz.func210 (by kernel_rfl) rfl (fun _ _ _ _ _ _ h=>h _ _) (fun _ _ _ _ _=>by kernel_rfl) fun R kk e x0 x1 K=>by
 simp only[qE,PI,aE]
def oM:Env:=b9.env (fun i=>bif Nat.beq i 5 then [4,20] else []) (fun i=>bif Nat.beq i 5 then [4] else []) [] [.str]
def Wx(a:Int)(b:mN):Option R:=aB (ev oM (wE R) kk (sub [1,1,1,0,1,0,0] (cd Tryz.f213))) [4,20] [4] k ⟨uS 4 ([tI a]::uS 15 ([.ptr 21 (.aJ .iter .unit .unit) []]::uS 10 [])),nS 21 ((some ⟨(.aJ .iter .unit .unit),b,[]⟩)::nS 10 [])⟩ J
def zp1(a:Int):State:=⟨uS 4 ([tI a]::uS 26 []),nS 32 []⟩
def N7:KX R:=(zj 0 (aT oM (wE R) kk (sub [1,1,1,1] (cd Tryz.f213)) (aS oM Tryz.f213.results.toList none K)))
theorem anz(a:Int)(b:mN):Wx R kk (k+1) J a b=
 Wz a b (Wx R kk k J) (fun a0=>J (.exit 0) (zp1 a0)):=by kernel_rfl
theorem ais(a:Int):N7 R kk K (.exit 0) (zp1 a)=
 Dm a (fun a0 a1=>K [tI a0,tB a1] none):=by kernel_rfl
theorem alv{kk:Nat}(hF:kk=ag)(t4:Int)(BC:mN):Wx R kk k J t4 BC=(Gt k t4 BC).bind fun e=>J (.exit 0) (zp1 e):=by
 induction k generalizing t4 BC with
 |zero=>rfl
 |succ k ih=>
  rw[anz]
  simp only[Gt,Wz,ih,aE]
def IK:ah:=wE.add 213 [.str] (cK .str yi (fun _ r K=>K [tI r.1,tB r.2] none))
theorem o75:aO Tryz.prog IK:=cN oM Tryz.f213 (fun R kk x0 K=>Wy x0 (fun a0 a1=>K [tI a0,tB a1] none) (Wx R kk kk (N7 R kk K))) o74 (ek _ _ _ _) Tryz.func213 (by kernel_rfl) rfl (fun _ _ _ _ _ _ h=>h _ _) (fun _ _ _ _=>by kernel_rfl) fun R kk e x0 K=>by
 simp only[yi,Wy,Dm,alv (hF:=e),ais,aE,<-e]
def am2:Env:=e0 [(.int .i64),(.int .i64),.str,(.int .i64)]
def IL:ah:=IK.add 183 [(.int .i64),(.int .i64),.str,(.int .i64)] (Rw (.int .i64) (.int .i64) .str (.int .i64) sP (fun _ r K=>K [tI r.1,tI r.2.1,tI r.2.2] none))
theorem o76:aO Tryz.prog IL:=st4 am2 Tryz.f183 (fun R kk x0 x1 x2 x3 K=>TZ x0 x1 x2 x3 (fun a0 a1 a2=>K [tI a0,tI a1,tI a2] none)) o75 (ek _ _ _ _) Tryz.func183 (by kernel_rfl) rfl (fun _ _ _ _ _ _ h=>h _ _) (fun _ _ _ _ _ _ _=>by kernel_rfl) fun R kk e x0 x1 x2 x3 K=>by
 simp only[sP,TZ,aE]
def GX:Env:=e0 [(.int .i64),(.int .i64)]
def IM:ah:=IL.add 176 [(.int .i64),(.int .i64)] (dv (.int .i64) (.int .i64) kL (fun _ r K=>K [tI r] none))
theorem o77:aO Tryz.prog IM:=dz GX Tryz.f176 (fun R kk x0 x1 K=>VR x0 x1 (fun a0=>K [tI a0] none)) o76 (ek _ _ _ _) Tryz.func176 (by kernel_rfl) rfl (fun _ _ _ _ _ _ h=>h _ _) (fun _ _ _ _ _=>by kernel_rfl) fun R kk e x0 x1 K=>by
 simp only[kL,VR,aE]
def GU:Env:=e0 [(.int .i64),cJ,.str,(.int .i64)]
def wF:ah:=IM.add 132 [(.int .i64),cJ,.str,(.int .i64)] (Rw (.int .i64) cJ .str (.int .i64) GR (fun _ r K=>K [tS r.1,tI r.2.1,tI r.2.2] none))
theorem o78:aO Tryz.prog wF:=st4 GU Tryz.f132 (fun R kk x0 x1 x2 x3 K=>VK x0 x1 x2 x3 (fun a0 a1 a2=>K [tS a0,tI a1,tI a2] none)) o77 (ek _ _ _ _) Tryz.func132 (by kernel_rfl) rfl (fun _ _ _ _ _ _ h=>h _ _) (fun _ _ _ _ _ _ _=>by kernel_rfl) fun R kk e x0 x1 x2 x3 K=>by
 simp only[GR,VK,aE]
def Wj:Env:=b9.env (fun i=>bif Nat.beq i 13 then [1,2,4,5,6,10,12,13] else []) (fun i=>bif Nat.beq i 13 then [1,4,5,6,10] else []) [4,5] [aK,.str]
def UL(a:ByteArray)(b c:Int)(d:af)(e:aw)(f:aQ)(g:aw)(h:aQ):Option R:=aB (ev Wj (wF R) kk (sub [1,1,1,1,1,1,1,1,0,1,0,0] (cd Tryz.f90))) [1,2,4,5,6,10,12,13] [1,4,5,6,10] k ⟨uS 1 ([tS a]::[.ptr 3 aK []]::uS 1 ([.ptr 5 y8 []]::[.ptr 6 (.pair (.int .i64) (.pair (.int .i64) .unit)) []]::[.ptr 7 y8 []]::uS 3 ([tI b]::uS 1 ([.ptr 13 (.pair (.int .u64) (.pair (.int .u64) .unit)) []]::[tI c]::uS 93 [])))),nS 3 ((some ⟨aK,d,[]⟩)::nS 1 ((some ⟨y8,e,[[1]]⟩)::(some ⟨(.pair (.int .i64) (.pair (.int .i64) .unit)),f,[]⟩)::(some ⟨y8,g,[[1]]⟩)::nS 5 ((some ⟨(.pair (.int .u64) (.pair (.int .u64) .unit)),h,[]⟩)::nS 94 [])))⟩ J
def zfz(a:ByteArray)(b:Int)(c:aw)(d:aQ)(e:aw):State:=⟨uS 1 ([tS a]::uS 2 ([.ptr 5 y8 []]::[.ptr 6 (.pair (.int .i64) (.pair (.int .i64) .unit)) []]::[.ptr 7 y8 []]::uS 3 ([tI b]::uS 96 []))),nS 5 ((some ⟨y8,c,[[1]]⟩)::(some ⟨(.pair (.int .i64) (.pair (.int .i64) .unit)),d,[]⟩)::(some ⟨y8,e,[]⟩)::nS 100 [])⟩
def zg0(a:ByteArray)(b:Int)(c:aw)(d:aQ)(e:aw):State:=⟨uS 1 ([tS a]::uS 2 ([.ptr 5 y8 []]::[.ptr 6 (.pair (.int .i64) (.pair (.int .i64) .unit)) []]::[.ptr 7 y8 []]::uS 3 ([tI b]::uS 96 []))),nS 5 ((some ⟨y8,c,[[1]]⟩)::(some ⟨(.pair (.int .i64) (.pair (.int .i64) .unit)),d,[]⟩)::(some ⟨y8,e,[[1]]⟩)::nS 100 [])⟩
def zzh:KX R:=(zj 0 (aT Wj (wF R) kk (sub [1,1,1,1,1,1,1,1,1] (cd Tryz.f90)) (aS Wj Tryz.f90.results.toList none K)))
theorem ale(a:ByteArray)(b c:Int)(d:af)(e:aw)(f:aQ)(g:aw)(h:aQ):UL R kk (k+1) J a b c d e f g h=
 PV a b c d e f g h (fun a0 a1 a2 a3 a4=>J .ret (zfz a0 a1 a2 a3 a4)) (UL R kk k J) (fun a0 a1 a2 a3 a4=>J (.exit 0) (zg0 a0 a1 a2 a3 a4)):=by kernel_rfl
theorem aeV(a:ByteArray)(b:Int)(c:aw)(d:aQ)(e:aw):zzh R kk K .ret (zfz a b c d e)=
 zzi a b c d e (fun a0 a1=>K [.aj y8 a0 [[1]],.aj (.pair (.int .i64) (.pair (.int .i64) .unit)) a1 []] none):=by kernel_rfl
theorem aeW(a:ByteArray)(b:Int)(c:aw)(d:aQ)(e:aw):zzh R kk K (.exit 0) (zg0 a b c d e)=
 zzj a b c d e (fun a0 a1=>K [.aj y8 a0 [[1]],.aj (.pair (.int .i64) (.pair (.int .i64) .unit)) a1 []] none):=by kernel_rfl
theorem ah9{kk:Nat}(hF:kk=ag)(tu:ByteArray)(t10 t13:Int)(dB:af)(cP:aw)(dV:aQ)(jS:aw)(Bw:aQ):UL R kk k J tu t10 t13 dB cP dV jS Bw=(EQ k tu t10 t13 dB cP dV jS Bw).bind fun e=>(Sum.elim (fun(we:qN)=>J .ret (zfz we.1 we.2.1 we.2.2.1 we.2.2.2.1 we.2.2.2.2)) (fun(we:qN)=>J (.exit 0) (zg0 we.1 we.2.1 we.2.2.1 we.2.2.2.1 we.2.2.2.2)) e):=by
 induction k generalizing tu t10 t13 dB cP dV jS Bw with
 |zero=>rfl
 |succ k ih=>
  rw[ale]
  simp only[EQ,PV,ih,aE]
def IP:ah:=wF.add 90 [aK,.str] (dv aK .str qH (fun _ r K=>K [.aj y8 r.1 [[1]],.aj (.pair (.int .i64) (.pair (.int .i64) .unit)) r.2 []] none))
theorem o79:aO Tryz.prog IP:=dz Wj Tryz.f90 (fun R kk x0 x1 K=>UM x0 x1 (fun a0 a1=>K [.aj y8 a0 [[1]],.aj (.pair (.int .i64) (.pair (.int .i64) .unit)) a1 []] none) (UL R kk kk (zzh R kk K))) o78 (ek _ _ _ _) Tryz.func90 (by kernel_rfl) rfl (fun _ _ _ _ _ _ h=>h _ _) (fun _ _ _ _ _=>by kernel_rfl) fun R kk e x0 x1 K=>by
 simp only[qH,UM,zzi,zzj,ah9 (hF:=e),aeV,aeW,aE,<-e]
def amZ:Env:=e0 [.str]
def wG:ah:=IP.add 117 [.str] (cK .str sO (fun _ r K=>K [tS r.1,tB r.2] none))
theorem o80:aO Tryz.prog wG:=cN amZ Tryz.f117 (fun R kk x0 K=>TW x0 (fun a0 a1=>K [tS a0,tB a1] none)) o79 (ek _ _ _ _) Tryz.func117 (by kernel_rfl) rfl (fun _ _ _ _ _ _ h=>h _ _) (fun _ _ _ _=>by kernel_rfl) fun R kk e x0 K=>by
 simp only[sO,TW,aE]
def V3:Env:=b9.env (fun i=>bif Nat.beq i 2 then [1,9,10,11] else []) (fun i=>bif Nat.beq i 2 then [4,5] else []) [] [y8,(.int .i64)]
def TO(a:Int)(b:ak)(c d:Int):Option R:=aB (ev V3 (wG R) kk (sub [1,0,1,0,0] (cd Tryz.f118))) [1,9,10,11] [4,5] k ⟨uS 1 ([tI a]::uS 7 ([.aj (.sl 208 (.pair (.int .i64) (.pair .str .unit))) b []]::[tI c]::[tI d]::uS 10 [])),nS 23 []⟩ J
def zf7(a:ByteArray)(b:Bool):State:=⟨uS 4 ([tS a]::[tB b]::uS 16 []),nS 23 []⟩
def zf8:State:=⟨uS 22 [],nS 23 []⟩
def zy5:KX R:=(zj 0 (aT V3 (wG R) kk (sub [1,1] (cd Tryz.f118)) (aS V3 Tryz.f118.results.toList none K)))
theorem akX(a:Int)(b:ak)(c d:Int):TO R kk (k+1) J a b c d=
 zy6 a b c d (fun a0 a1=>J .ret (zf7 a0 a1)) (TO R kk k J) (J (.exit 0) (zf8)):=by kernel_rfl
theorem aet(a:ByteArray)(b:Bool):zy5 R kk K .ret (zf7 a b)=
 zy7 a b (fun a0 a1=>K [tS a0,tB a1] none):=by kernel_rfl
theorem aeu:zy5 R kk K (.exit 0) (zf8)=
 zy8 (fun a0 a1=>K [tS a0,tB a1] none):=by kernel_rfl
theorem ahT{kk:Nat}(hF:kk=ag)(fk:Int)(t9:ak)(t10 t11:Int):TO R kk k J fk t9 t10 t11=(PF k fk t9 t10 t11).bind fun e=>(Sum.elim (fun(we:jy)=>J .ret (zf7 we.1 we.2)) (fun(we:Unit)=>J (.exit 0) (zf8)) e):=by
 induction k generalizing fk t9 t10 t11 with
 |zero=>rfl
 |succ k ih=>
  rw[akX]
  simp only[PF,zy6,ih,aE]
def wH:ah:=wG.add 118 [y8,(.int .i64)] (dv y8 (.int .i64) nR (fun _ r K=>K [tS r.1,tB r.2] none))
theorem o81:aO Tryz.prog wH:=dz V3 Tryz.f118 (fun R kk x0 x1 K=>TP x0 x1 (TO R kk kk (zy5 R kk K))) o80 (ek _ _ _ _) Tryz.func118 (by kernel_rfl) rfl (fun _ _ _ _ _ _ h=>h _ _) (fun _ _ _ _ _=>by kernel_rfl) fun R kk e x0 x1 K=>by
 simp only[nR,TP,zy7,zy8,ahT (hF:=e),aet,aeu,aE,<-e]
def V6:Env:=b9.env (fun i=>bif Nat.beq i 3 then [1,4,5,12,13,14] else []) (fun i=>bif Nat.beq i 3 then [4,5] else []) [4] [y8,(.int .i64)]
def TT(a:Int)(b:ak)(c d:Int)(e f:aw):Option R:=aB (ev V6 (wH R) kk (sub [1,1,0,1,0,0] (cd Tryz.f164))) [1,4,5,12,13,14] [4,5] k ⟨uS 1 ([tI a]::uS 2 ([.ptr 5 y8 []]::[.ptr 6 y8 []]::uS 6 ([.aj (.sl 208 (.pair (.int .i64) (.pair .str .unit))) b []]::[tI c]::[tI d]::uS 15 []))),nS 5 ((some ⟨y8,e,[[1]]⟩)::(some ⟨y8,f,[[1]]⟩)::nS 24 [])⟩ J
def zfa(a b:aw):State:=⟨uS 4 ([.ptr 5 y8 []]::[.ptr 6 y8 []]::uS 24 []),nS 5 ((some ⟨y8,a,[[1]]⟩)::(some ⟨y8,b,[[1]]⟩)::nS 24 [])⟩
def Nk:KX R:=(zj 0 (aT V6 (wH R) kk (sub [1,1,1] (cd Tryz.f164)) (aS V6 Tryz.f164.results.toList none K)))
theorem akZ(a:Int)(b:ak)(c d:Int)(e f:aw):TT R kk (k+1) J a b c d e f=
 zyc a b c d e f (TT R kk k J) (fun a0 a1=>J (.exit 0) (zfa a0 a1)):=by kernel_rfl
theorem aew(a b:aw):Nk R kk K (.exit 0) (zfa a b)=
 zyd a b (fun a0=>K [.aj y8 a0 [[1]]] none):=by kernel_rfl
theorem ahV{kk:Nat}(hF:kk=ag)(fk:Int)(t12:ak)(t13 t14:Int)(cP dV:aw):TT R kk k J fk t12 t13 t14 cP dV=(PH k fk t12 t13 t14 cP dV).bind fun e=>J (.exit 0) (zfa e.1 e.2):=by
 induction k generalizing fk t12 t13 t14 cP dV with
 |zero=>rfl
 |succ k ih=>
  rw[akZ]
  simp only[PH,zyc,ih,aE]
def IQ:ah:=wH.add 164 [y8,(.int .i64)] (dv y8 (.int .i64) sN (fun _ r K=>K [.aj y8 r [[1]]] none))
theorem o82:aO Tryz.prog IQ:=dz V6 Tryz.f164 (fun R kk x0 x1 K=>TU x0 x1 (TT R kk kk (Nk R kk K))) o81 (ek _ _ _ _) Tryz.func164 (by kernel_rfl) rfl (fun _ _ _ _ _ _ h=>h _ _) (fun _ _ _ _ _=>by kernel_rfl) fun R kk e x0 x1 K=>by
 simp only[sN,TU,zyd,ahV (hF:=e),aew,aE,<-e]
def amX:Env:=e0 [(.pair (.int .i64) (.pair .str .unit)),.unit]
def wI:ah:=IQ.add 166 [(.pair (.int .i64) (.pair .str .unit)),.unit] (pz (.pair (.int .i64) (.pair .str .unit)) (.int .i64) (.int .i64) [] sM (fun _ r K=>K [tB r.1] (some ⟨(.int .i64),r.2,[]⟩)))
theorem o83:aO Tryz.prog wI:=sz amX Tryz.f166 (fun R kk x0 x1 K=>zyb x0 x1 (fun a0 a1=>K [tB a0] (some ⟨(.int .i64),a1,[]⟩))) o82 (ek _ _ _ _) Tryz.func166 (by kernel_rfl) rfl (fun _ _ _ _ _ _ h=>h _ _) (fun _ _ _ _ _=>by kernel_rfl) fun R kk e x0 x1 K=>by
 simp only[sM,zyb,aE]
def Wh:Env:=b9.env (fun i=>bif Nat.beq i 2 then [0,1,7,8] else []) (fun i=>bif Nat.beq i 2 then [4] else []) [] [(.sl 208 (.pair (.int .i64) (.pair .str .unit))),.unit]
def UD(a:ak)(b c d:Int):Option R:=aB (ev Wh (wI R) kk (sub [1,0,1,0,0] (cd Tryz.f165))) [0,1,7,8] [4] k ⟨[.aj (.sl 208 (.pair (.int .i64) (.pair .str .unit))) a []]::[.ptr 0 (.aJ (.rM 166) (.int .i64) .unit) []]::uS 5 ([tI b]::[tI c]::uS 10 []),(some ⟨(.int .i64),d,[]⟩)::nS 19 []⟩ J
def zfv(a b:Int):State:=⟨uS 4 ([tI a]::uS 14 []),(some ⟨(.int .i64),b,[]⟩)::nS 19 []⟩
def zfw(a:Int):State:=⟨uS 19 [],(some ⟨(.int .i64),a,[]⟩)::nS 19 []⟩
def zz9(a:Int):KX R:=(zj 0 (aT Wh (wI R) kk (sub [1,1] (cd Tryz.f165)) (aS Wh Tryz.f165.results.toList (some ⟨(.int .i64),a,[]⟩) K)))
theorem alc(a:ak)(b c d:Int):UD R kk (k+1) J a b c d=
 zza a b c d (fun a0 a1=>J .ret (zfv a0 a1)) (UD R kk k J) (fun a0=>J (.exit 0) (zfw a0)):=by kernel_rfl
theorem aeR(a b c:Int):zz9 R kk K a .ret (zfv b c)=
 zzb b c (fun a0 a1=>K [tI a0] (some ⟨(.int .i64),a1,[]⟩)):=by kernel_rfl
theorem aeS(a b:Int):zz9 R kk K a (.exit 0) (zfw b)=
 zzc b (fun a0 a1=>K [tI a0] (some ⟨(.int .i64),a1,[]⟩)):=by kernel_rfl
theorem ah7{kk:Nat}(hF:kk=ag)(lM:ak)(t7 t8 recv:Int):UD R kk k J lM t7 t8 recv=(PT k lM t7 t8 recv).bind fun e=>(Sum.elim (fun(we:(Int×Int))=>J .ret (zfv we.1 we.2)) (fun(we:Int)=>J (.exit 0) (zfw we)) e):=by
 induction k generalizing lM t7 t8 recv with
 |zero=>rfl
 |succ k ih=>
  rw[alc]
  simp only[PT,zza,ih,aE]
def IU:ah:=wI.add 165 [(.sl 208 (.pair (.int .i64) (.pair .str .unit))),.unit] (pz (.sl 208 (.pair (.int .i64) (.pair .str .unit))) (.aJ (.rM 166) (.int .i64) .unit) (.int .i64) [] s4 (fun _ r K=>K [tI r.1] (some ⟨(.int .i64),r.2,[]⟩)))
theorem o84:aO Tryz.prog IU:=sz Wh Tryz.f165 (fun R kk x0 x1 K=>UE x0 x1 (UD R kk kk (zz9 R kk K x1))) o83 (ek _ _ _ _) Tryz.func165 (by kernel_rfl) rfl (fun _ _ _ _ _ _ h=>h _ _) (fun _ _ _ _ _=>by kernel_rfl) fun R kk e x0 x1 K=>by
 simp only[s4,UE,zzb,zzc,ah7 (hF:=e),aeR,aeS,aE,<-e]
def amW:Env:={b9.env (fun _=>[]) (fun _=>[]) [6] [y8,(.int .i64),.str] with fz:=fun i=>bif Nat.beq i 9 then some (9,155) else none}
def n5:ah:=IU.add 119 [y8,(.int .i64),.str] (kh y8 (.int .i64) .str hG (fun _ r K=>K [.aj y8 r []] none))
theorem o85:aO Tryz.prog n5:=ku amW Tryz.f119 (fun R kk x0 x1 x2 K=>TS x0 x1 x2 (fun a0=>K [.aj y8 a0 []] none)) o84 ((ek _ _ _ _).fz _) Tryz.func119 (by kernel_rfl) rfl (fun _ _ _ _ _ _ h=>h _ _) (fun _ _ _ _ _ _=>by kernel_rfl) fun R kk e x0 x1 x2 K=>by
 simp only[hG,TS,aE]
def E2:Env:=b9.env (fun i=>bif Nat.beq i 2 then [2,10,11,12] else bif Nat.beq i 5 then [2,6,10,11,12,17,18,19] else []) (fun i=>bif Nat.beq i 2 then [4] else bif Nat.beq i 5 then [2,4,10,11,12] else []) [] [cw,(.int .i64)]
def Ud(a:(List Int))(b c:Int)(d:ar):Option R:=aB (ev E2 (n5 R) kk (sub [1,0,1,0,0] (cd Tryz.f120))) [2,10,11,12] [4] k ⟨uS 2 ([.ptr 3 cw []]::uS 7 ([.aj (.sl 39 (.int .i64)) a [[]]]::[tI b]::[tI c]::uS 18 [])),nS 3 ((some ⟨cw,d,[]⟩)::nS 28 [])⟩ J
def zfh:State:=⟨uS 31 [],nS 32 []⟩
def zfi(a:ByteArray):State:=⟨uS 4 ([tS a]::uS 26 []),nS 32 []⟩
def zym:KX R:=(zj 0 (aT E2 (n5 R) kk (sub [1,1] (cd Tryz.f120)) (aS E2 Tryz.f120.results.toList none K)))
def Ue(a:Int)(b:(List Int))(c d:Int)(e:ak)(f g:Int)(h:ar):Option R:=aB (ev E2 (n5 R) kk (sub [1,0,1,0,0,1,1,0,0,1,1,0,0] (cd Tryz.f120))) [2,6,10,11,12,17,18,19] [2,4,10,11,12] k ⟨uS 2 ([.ptr 3 cw []]::uS 3 ([tI a]::uS 3 ([.aj (.sl 39 (.int .i64)) b [[]]]::[tI c]::[tI d]::uS 4 ([.aj (.sl 107 (.pair (.int .i64) (.pair .str .unit))) e []]::[tI f]::[tI g]::uS 11 [])))),nS 3 ((some ⟨cw,h,[]⟩)::nS 28 [])⟩ J
def zfj(a:ByteArray)(b:(List Int))(c d:Int)(e:ar):State:=⟨uS 2 ([.ptr 3 cw []]::uS 1 ([tS a]::uS 5 ([.aj (.sl 39 (.int .i64)) b [[]]]::[tI c]::[tI d]::uS 18 []))),nS 3 ((some ⟨cw,e,[]⟩)::nS 28 [])⟩
def zfk(a:(List Int))(b c:Int)(d:ar):State:=⟨uS 2 ([.ptr 3 cw []]::uS 7 ([.aj (.sl 39 (.int .i64)) a [[]]]::[tI b]::[tI c]::uS 18 [])),nS 3 ((some ⟨cw,d,[]⟩)::nS 28 [])⟩
def zyn:KX R:=(zj 2 (zj 1 (aT E2 (n5 R) kk (sub [1,0,1,0,0,1,1,1] (cd Tryz.f120)) (lh (ev E2 (n5 R) kk (sub [1,0,1,0,0] (cd Tryz.f120))) [2,10,11,12] [4] k J))))
theorem ak4(a:(List Int))(b c:Int)(d:ar):Ud R kk (k+1) J a b c d=
 PN a b c d (Ue R kk kk (zyn R kk k J)) (J (.exit 0) (zfh)):=by kernel_rfl
theorem aeD:zym R kk K (.exit 0) (zfh)=
 zyo (fun a0=>K [tS a0] none):=by kernel_rfl
theorem ak5(a:Int)(b:(List Int))(c d:Int)(e:ak)(f g:Int)(h:ar):Ue R kk (k+1) J a b c d e f g h=
 zyp a b c d e f g h (fun a0 a1 a2 a3 a4=>J .ret (zfj a0 a1 a2 a3 a4)) (Ue R kk k J) (fun a0 a1 a2 a3=>J (.exit 2) (zfk a0 a1 a2 a3)):=by kernel_rfl
theorem aeF(a:ByteArray)(b:(List Int))(c d:Int)(e:ar):zyn R kk k J .ret (zfj a b c d e)=
 zyq a b c d e (fun a0=>J .ret (zfi a0)):=by kernel_rfl
theorem aeG(a:(List Int))(b c:Int)(d:ar):zyn R kk k J (.exit 2) (zfk a b c d)=
 Ug a b c d (Ud R kk k J):=by kernel_rfl
theorem aeE(a:ByteArray):zym R kk K .ret (zfi a)=
 zyr a (fun a0=>K [tS a0] none):=by kernel_rfl
theorem ah1{kk:Nat}(hF:kk=ag)(t6:Int)(t10:(List Int))(t11 t12:Int)(t17:ak)(t18 t19:Int)(dB:ar):Ue R kk k J t6 t10 t11 t12 t17 t18 t19 dB=(Gc k t6 t10 t11 t12 t17 t18 t19 dB).bind fun e=>(Sum.elim (fun(we:(ByteArray×(List Int)×Int×Int×ar))=>J .ret (zfj we.1 we.2.1 we.2.2.1 we.2.2.2.1 we.2.2.2.2)) (fun(we:((List Int)×Int×Int×ar))=>J (.exit 2) (zfk we.1 we.2.1 we.2.2.1 we.2.2.2)) e):=by
 induction k generalizing t6 t10 t11 t12 t17 t18 t19 dB with
 |zero=>rfl
 |succ k ih=>
  rw[ak5]
  simp only[Gc,zyp,ih,aE]
theorem ah0{kk:Nat}(hF:kk=ag)(t10:(List Int))(t11 t12:Int)(dB:ar):Ud R kk k J t10 t11 t12 dB=(A3 k t10 t11 t12 dB).bind fun e=>(Sum.elim (fun(we:Unit)=>J (.exit 0) (zfh)) (fun(we:ByteArray)=>J .ret (zfi we)) e):=by
 induction k generalizing t10 t11 t12 dB with
 |zero=>rfl
 |succ k ih=>
  rw[ak4]
  simp only[A3,PN,zyq,Ug,ih,ah1 (hF:=hF),aeF,aeG,aE,<-hF]
def wJ:ah:=n5.add 120 [cw,(.int .i64)] (dv cw (.int .i64) sS (fun _ r K=>K [tS r] none))
theorem o86:aO Tryz.prog wJ:=dz E2 Tryz.f120 (fun R kk x0 x1 K=>Uf x0 x1 (Ud R kk kk (zym R kk K))) o85 (ek _ _ _ _) Tryz.func120 (by kernel_rfl) rfl (fun _ _ _ _ _ _ h=>h _ _) (fun _ _ _ _ _=>by kernel_rfl) fun R kk e x0 x1 K=>by
 simp only[sS,Uf,zyo,zyr,ah0 (hF:=e),aeD,aeE,aE,<-e]
def V9:Env:={{b9.env (fun i=>bif Nat.beq i 6 then [3,4,5,6,10,27,28,29] else []) (fun i=>bif Nat.beq i 6 then [3,5,6,10] else []) [6] [cw,y8,(.pair (.int .i64) (.pair (.int .i64) .unit))] with dr:=fun i=>bif Nat.beq i 6 then [11] else []} with ro:=true}
def T5(a:(List Int))(b c:Int)(d:ar)(e:aw)(f:aQ)(g h:aw):Option R:=aB (ev V9 (wJ R) kk (sub [1,1,1,1,0,1,0,0] (cd Tryz.f88))) [3,4,5,6,10,27,28,29] [3,5,6,10] k ⟨uS 3 ([.ptr 4 cw []]::[.ptr 5 y8 []]::[.ptr 6 (.pair (.int .i64) (.pair (.int .i64) .unit)) []]::[.ptr 7 y8 []]::uS 3 ([.ptr 11 y8 []]::uS 16 ([.aj (.sl 3 (.int .i64)) a []]::[tI b]::[tI c]::uS 21 []))),nS 4 ((some ⟨cw,d,[]⟩)::(some ⟨y8,e,[]⟩)::(some ⟨(.pair (.int .i64) (.pair (.int .i64) .unit)),f,[]⟩)::(some ⟨y8,g,[[1]]⟩)::nS 3 ((some ⟨y8,h,[]⟩)::nS 40 []))⟩ J
def zfc(a:ar)(b:aQ)(c d:aw):State:=⟨uS 3 ([.ptr 4 cw []]::uS 1 ([.ptr 6 (.pair (.int .i64) (.pair (.int .i64) .unit)) []]::[.ptr 7 y8 []]::uS 3 ([.ptr 11 y8 []]::uS 40 []))),nS 4 ((some ⟨cw,a,[]⟩)::nS 1 ((some ⟨(.pair (.int .i64) (.pair (.int .i64) .unit)),b,[]⟩)::(some ⟨y8,c,[[1]]⟩)::nS 3 ((some ⟨y8,d,[]⟩)::nS 40 [])))⟩
def Nn:KX R:=(zj 0 (aT V9 (wJ R) kk (sub [1,1,1,1,1] (cd Tryz.f88)) (aS V9 Tryz.f88.results.toList none K)))
theorem ak1(a:(List Int))(b c:Int)(d:ar)(e:aw)(f:aQ)(g h:aw):T5 R kk (k+1) J a b c d e f g h=
 zyh a b c d e f g h (T5 R kk k J) (fun a0 a1 a2 a3=>J (.exit 0) (zfc a0 a1 a2 a3)):=by kernel_rfl
theorem aey(a:ar)(b:aQ)(c d:aw):Nn R kk K (.exit 0) (zfc a b c d)=
 T7 a b c d (fun a0 a1=>K [.aj y8 a0 [],tB a1] none):=by kernel_rfl
theorem ahX{kk:Nat}(hF:kk=ag)(t27:(List Int))(t28 t29:Int)(dc:ar)(cP:aw)(dV:aQ)(jS Bv:aw):T5 R kk k J t27 t28 t29 dc cP dV jS Bv=(PK k t27 t28 t29 dc cP dV jS Bv).bind fun e=>J (.exit 0) (zfc e.1 e.2.1 e.2.2.1 e.2.2.2):=by
 induction k generalizing t27 t28 t29 dc cP dV jS Bv with
 |zero=>rfl
 |succ k ih=>
  rw[ak1]
  simp only[PK,zyh,ih,aE]
def wK:ah:=wJ.add 88 [cw,y8,(.pair (.int .i64) (.pair (.int .i64) .unit))] (kh cw y8 (.pair (.int .i64) (.pair (.int .i64) .unit)) sQ (fun _ r K=>K [.aj y8 r.1 [],tB r.2] none))
theorem o87:aO Tryz.prog wK:=ku V9 Tryz.f88 (fun R kk x0 x1 x2 K=>T6 x0 x1 x2 (fun a0 a1=>K [.aj y8 a0 [],tB a1] none) (T5 R kk kk (Nn R kk K))) o86 (((ek _ _ _ _).dr _).ro _) Tryz.func88 (by kernel_rfl) rfl (fun _ _ _ _ _ _ h=>h _ _) (fun _ _ _ _ _ _=>by kernel_rfl) fun R kk e x0 x1 x2 K=>by
 simp only[sQ,T6,T7,ahX (hF:=e),aey,aE,<-e]
def V2:Env:=b9.env (fun i=>bif Nat.beq i 9 then [2,4,9,39,40,41] else []) (fun i=>bif Nat.beq i 9 then [4] else []) [4] [aK,y8]
def TM(a:Int)(b:ak)(c d:Int)(e:af)(f:aQ):Option R:=aB (ev V2 (wK R) kk (sub [1,1,1,1,0,1,0,0] (cd Tryz.f121))) [2,4,9,39,40,41] [4] k ⟨uS 2 ([.ptr 3 aK []]::uS 1 ([.ptr 5 (.pair (.int .i64) (.pair (.int .i64) .unit)) []]::uS 4 ([tI a]::uS 29 ([.aj (.sl 208 (.pair (.int .i64) (.pair .str .unit))) b []]::[tI c]::[tI d]::uS 36 [])))),nS 3 ((some ⟨aK,e,[]⟩)::nS 1 ((some ⟨(.pair (.int .i64) (.pair (.int .i64) .unit)),f,[]⟩)::nS 73 []))⟩ J
def zf5(a:aQ):State:=⟨uS 4 ([.ptr 5 (.pair (.int .i64) (.pair (.int .i64) .unit)) []]::uS 73 []),nS 5 ((some ⟨(.pair (.int .i64) (.pair (.int .i64) .unit)),a,[]⟩)::nS 73 [])⟩
def zf6(a:aQ):State:=⟨uS 4 ([.ptr 5 (.pair (.int .i64) (.pair (.int .i64) .unit)) []]::uS 73 []),nS 5 ((some ⟨(.pair (.int .i64) (.pair (.int .i64) .unit)),a,[]⟩)::nS 73 [])⟩
def zy1:KX R:=(zj 0 (aT V2 (wK R) kk (sub [1,1,1,1,1] (cd Tryz.f121)) (aS V2 Tryz.f121.results.toList none K)))
theorem akW(a:Int)(b:ak)(c d:Int)(e:af)(f:aQ):TM R kk (k+1) J a b c d e f=
 zy2 a b c d e f (fun a0=>J .ret (zf5 a0)) (TM R kk k J) (fun a0=>J (.exit 0) (zf6 a0)):=by kernel_rfl
theorem aer(a:aQ):zy1 R kk K .ret (zf5 a)=
 zy3 a (fun a0=>K [.aj (.pair (.int .i64) (.pair (.int .i64) .unit)) a0 []] none):=by kernel_rfl
theorem aes(a:aQ):zy1 R kk K (.exit 0) (zf6 a)=
 zy4 a (fun a0=>K [.aj (.pair (.int .i64) (.pair (.int .i64) .unit)) a0 []] none):=by kernel_rfl
theorem ahS{kk:Nat}(hF:kk=ag)(t9:Int)(t39:ak)(t40 t41:Int)(dB:af)(cP:aQ):TM R kk k J t9 t39 t40 t41 dB cP=(PE k t9 t39 t40 t41 dB cP).bind fun e=>(Sum.elim (fun(we:aQ)=>J .ret (zf5 we)) (fun(we:aQ)=>J (.exit 0) (zf6 we)) e):=by
 induction k generalizing t9 t39 t40 t41 dB cP with
 |zero=>rfl
 |succ k ih=>
  rw[akW]
  simp only[PE,zy2,ih,aE]
def wL:ah:=wK.add 121 [aK,y8] (dv aK y8 qB (fun _ r K=>K [.aj (.pair (.int .i64) (.pair (.int .i64) .unit)) r []] none))
theorem o88:aO Tryz.prog wL:=dz V2 Tryz.f121 (fun R kk x0 x1 K=>TN x0 x1 (fun a0=>K [.aj (.pair (.int .i64) (.pair (.int .i64) .unit)) a0 []] none) (TM R kk kk (zy1 R kk K))) o87 (ek _ _ _ _) Tryz.func121 (by kernel_rfl) rfl (fun _ _ _ _ _ _ h=>h _ _) (fun _ _ _ _ _=>by kernel_rfl) fun R kk e x0 x1 K=>by
 simp only[qB,TN,zy3,zy4,ahS (hF:=e),aer,aes,aE,<-e]
def vI:Env:=b9.env (fun i=>bif Nat.beq i 7 then [0,4,5] else []) (fun i=>bif Nat.beq i 7 then [4] else []) [] [.str]
def oI(a:ByteArray)(b:(List Int))(c:Int):Option R:=aB (ev vI (wL R) kk (sub [1,1,1,1,0,1,0,0] (cd Tryz.f168))) [0,4,5] [4] k ⟨[tS a]::uS 3 ([.aj (.sl 5 (.int .u8)) b [[]]]::[tI c]::uS 40 []),nS 47 []⟩ J
def zz4(a:(List Int)):State:=⟨uS 4 ([.aj (.sl 5 (.int .u8)) a [[]]]::uS 41 []),nS 47 []⟩
def yg:KX R:=(zj 0 (aT vI (wL R) kk (sub [1,1,1,1,1] (cd Tryz.f168)) (aS vI Tryz.f168.results.toList none K)))
theorem G5(a:ByteArray)(b:(List Int))(c:Int):oI R kk (k+1) J a b c=
 mH a b c (oI R kk k J) (fun a0=>J (.exit 0) (zz4 a0)):=by kernel_rfl
theorem ala(a:(List Int)):yg R kk K (.exit 0) (zz4 a)=
 sZ a (fun a0 a1=>K [tS a0,tB a1] none):=by kernel_rfl
theorem ani{kk:Nat}(hF:kk=ag)(iM:ByteArray)(t4:(List Int))(t5:Int):oI R kk k J iM t4 t5=(jJ k iM t4 t5).bind fun e=>J (.exit 0) (zz4 e):=by
 induction k generalizing iM t4 t5 with
 |zero=>rfl
 |succ k ih=>
  rw[G5]
  simp only[jJ,mH,ih,aE]
def IV:ah:=wL.add 168 [.str] (cK .str Q1 (fun _ r K=>K [tS r.1,tB r.2] none))
theorem o89:aO Tryz.prog IV:=cN vI Tryz.f168 (fun R kk x0 K=>kM x0 (fun a0 a1=>K [tS a0,tB a1] none) (fun a0 a1 a2=>oI R kk kk (yg R kk K) a0 a1 a2)) o88 (ek _ _ _ _) Tryz.func168 (by kernel_rfl) rfl (fun _ _ _ _ _ _ h=>h _ _) (fun _ _ _ _=>by kernel_rfl) fun R kk e x0 K=>by
 simp only[Q1,acA,sZ,ani (hF:=e),ala,aE,<-e]
def anv:Env:=e0 [(.int .i64),.str]
def IW:ah:=IV.add 124 [(.int .i64),.str] (dv (.int .i64) .str td (fun _ r K=>K [tS r.1,tB r.2] none))
theorem o90:aO Tryz.prog IW:=dz anv Tryz.f124 (fun R kk x0 x1 K=>U6 x0 x1 (fun a0 a1=>K [tS a0,tB a1] none)) o89 (ek _ _ _ _) Tryz.func124 (by kernel_rfl) rfl (fun _ _ _ _ _ _ h=>h _ _) (fun _ _ _ _ _=>by kernel_rfl) fun R kk e x0 x1 K=>by
 simp only[td,U6,aE]
def Tryz.iY:Go.Shelf.Ren:=⟨fun|166=>123|240=>167|276=>209|n=>n,fun|70=>196|9=>9|3=>3|75=>200|0=>0|72=>198|37=>99|4=>4|164=>280|80=>210|5=>5|20=>20|n=>n,fun n=>n⟩
theorem Tryz.xn:Go.Proofs.Lays.n166 Go.Proofs.Tryz.prog Tryz.iY:={
 mixed:=by kernel_rfl,
 f166:=Go.Proofs.Tryz.func123.trans (congrArg some (by kernel_rfl)),
 f240:=Go.Proofs.Tryz.func167.trans (congrArg some (by kernel_rfl)),
 f276:=Go.Proofs.Tryz.func209.trans (congrArg some (by kernel_rfl)),
 t0:=Go.Proofs.Tryz.underlying0,
 a0:=Go.Proofs.Tryz.isAgg0,
 z0:=Go.Proofs.Tryz.sizeOf0,
 v0:=Go.Proofs.Tryz.zeroValue0,
 t3:=Go.Proofs.Tryz.underlying3,
 a3:=Go.Proofs.Tryz.isAgg3,
 z3:=Go.Proofs.Tryz.sizeOf3,
 v3:=Go.Proofs.Tryz.zeroValue3,
 t4:=Go.Proofs.Tryz.underlying4,
 a4:=Go.Proofs.Tryz.isAgg4,
 z4:=Go.Proofs.Tryz.sizeOf4,
 v4:=Go.Proofs.Tryz.zeroValue4,
 t9:=Go.Proofs.Tryz.underlying9,
 a9:=Go.Proofs.Tryz.isAgg9,
 z9:=Go.Proofs.Tryz.sizeOf9,
 v9:=Go.Proofs.Tryz.zeroValue9,
 t20:=Go.Proofs.Tryz.underlying20,
 a20:=Go.Proofs.Tryz.isAgg20,
 z20:=Go.Proofs.Tryz.sizeOf20,
 v20:=Go.Proofs.Tryz.zeroValue20,
 t37:=Go.Proofs.Tryz.underlying99,
 a37:=Go.Proofs.Tryz.isAgg99,
 z37:=Go.Proofs.Tryz.sizeOf99,
 v37:=Go.Proofs.Tryz.zeroValue99,
 t70:=Go.Proofs.Tryz.underlying196,
 a70:=Go.Proofs.Tryz.isAgg196,
 z70:=Go.Proofs.Tryz.sizeOf196,
 v70:=Go.Proofs.Tryz.zeroValue196,
 t72:=Go.Proofs.Tryz.underlying198,
 a72:=Go.Proofs.Tryz.isAgg198,
 z72:=Go.Proofs.Tryz.sizeOf198,
 v72:=Go.Proofs.Tryz.zeroValue198,
 t75:=Go.Proofs.Tryz.underlying200,
 a75:=Go.Proofs.Tryz.isAgg200,
 z75:=Go.Proofs.Tryz.sizeOf200,
 v75:=Go.Proofs.Tryz.zeroValue200,
 t164:=Go.Proofs.Tryz.underlying280,
 a164:=Go.Proofs.Tryz.isAgg280,
 z164:=Go.Proofs.Tryz.sizeOf280,
 v164:=Go.Proofs.Tryz.zeroValue280}
theorem Tryz.tD:Go.Proofs.Builder.Extra Go.Proofs.Tryz.prog Tryz.iY:={
 sizeBuilder:=by kernel_rfl,
 liesBuilder:=by kernel_rfl,
 t5:=Go.Proofs.Tryz.underlying5,
 a5:=Go.Proofs.Tryz.isAgg5,
 z5:=Go.Proofs.Tryz.sizeOf5,
 v5:=Go.Proofs.Tryz.zeroValue5,
 infoByte:=by kernel_rfl,
 cellsByte:=by kernel_rfl,
 sizeByte:=by kernel_rfl,
 neB5:=by decide}
noncomputable abbrev z66:Code:=Tryz.f123.body.getD .skip
theorem z5n:rK Tryz.prog 123:=⟨Tryz.f123,z66,Tryz.func123,by kernel_rfl,by kernel_rfl⟩
def IX:ah:=IW.add 123 [] (QD 198 5)
theorem o91:aO Tryz.prog IX:=⟨o90.mix,Vn o90.nat (anZ _ _),afs o90.uu z5n Tryz.xn Tryz.tD rfl rfl rfl⟩
def anu:Env:=e0 [.str,.unit]
def wM:ah:=IX.add 122 [.str,.unit] (pz .str (.aJ (.gn 198 5) .unit .unit) (.aJ (.gn 198 5) .unit .unit) [[]] jK (fun _ r K=>K [] (some ⟨(.aJ (.gn 198 5) .unit .unit),r,[[]]⟩)))
theorem o92:aO Tryz.prog wM:=sz anu Tryz.f122 (fun R kk x0 x1 K=>U5 x0 x1 (fun a0=>K [] (some ⟨(.aJ (.gn 198 5) .unit .unit),a0,[[]]⟩))) o91 (ek _ _ _ _) Tryz.func122 (by kernel_rfl) rfl (fun _ _ _ _ _ _ h=>h _ _) (fun _ _ _ _ _=>by kernel_rfl) fun R kk e x0 x1 K=>by
 simp only[jK,U5,aE]
def V4:Env:=b9.env (fun i=>bif Nat.beq i 3 then [2,3,7,8,9] else []) (fun i=>bif Nat.beq i 3 then [2,3] else []) [2] [y8]
def TQ(a:ak)(b c:Int)(d e:aQ):Option R:=aB (ev V4 (wM R) kk (sub [1,1,0,1,0,0] (cd Tryz.f126))) [2,3,7,8,9] [2,3] k ⟨uS 2 ([.ptr 3 (.pair (.int .u64) (.pair (.int .u64) .unit)) []]::[.ptr 4 (.pair (.int .u64) (.pair (.int .u64) .unit)) []]::uS 3 ([.aj (.sl 208 (.pair (.int .i64) (.pair .str .unit))) a []]::[tI b]::[tI c]::uS 9 [])),nS 3 ((some ⟨(.pair (.int .u64) (.pair (.int .u64) .unit)),d,[]⟩)::(some ⟨(.pair (.int .u64) (.pair (.int .u64) .unit)),e,[]⟩)::nS 15 [])⟩ J
def zf9(a b:aQ):State:=⟨uS 2 ([.ptr 3 (.pair (.int .u64) (.pair (.int .u64) .unit)) []]::[.ptr 4 (.pair (.int .u64) (.pair (.int .u64) .unit)) []]::uS 15 []),nS 3 ((some ⟨(.pair (.int .u64) (.pair (.int .u64) .unit)),a,[]⟩)::(some ⟨(.pair (.int .u64) (.pair (.int .u64) .unit)),b,[]⟩)::nS 15 [])⟩
def Nj:KX R:=(zj 0 (aT V4 (wM R) kk (sub [1,1,1] (cd Tryz.f126)) (aS V4 Tryz.f126.results.toList none K)))
theorem akY(a:ak)(b c:Int)(d e:aQ):TQ R kk (k+1) J a b c d e=
 zy9 a b c d e (TQ R kk k J) (fun a0 a1=>J (.exit 0) (zf9 a0 a1)):=by kernel_rfl
theorem aev(a b:aQ):Nj R kk K (.exit 0) (zf9 a b)=
 zya a b (fun a0=>K [.aj (.pair (.int .u64) (.pair (.int .u64) .unit)) a0 []] none):=by kernel_rfl
theorem ahU{kk:Nat}(hF:kk=ag)(t7:ak)(t8 t9:Int)(dB dc:aQ):TQ R kk k J t7 t8 t9 dB dc=(PG k t7 t8 t9 dB dc).bind fun e=>J (.exit 0) (zf9 e.1 e.2):=by
 induction k generalizing t7 t8 t9 dB dc with
 |zero=>rfl
 |succ k ih=>
  rw[akY]
  simp only[PG,zy9,ih,aE]
def IY:ah:=wM.add 126 [y8] (cK y8 sL (fun _ r K=>K [.aj (.pair (.int .u64) (.pair (.int .u64) .unit)) r []] none))
theorem o93:aO Tryz.prog IY:=cN V4 Tryz.f126 (fun R kk x0 K=>TR x0 (TQ R kk kk (Nj R kk K))) o92 (ek _ _ _ _) Tryz.func126 (by kernel_rfl) rfl (fun _ _ _ _ _ _ h=>h _ _) (fun _ _ _ _=>by kernel_rfl) fun R kk e x0 K=>by
 simp only[sL,TR,zya,ahU (hF:=e),aev,aE,<-e]
def Hg:Env:=e0 [(.pair (.int .u64) (.pair (.int .u64) .unit)),(.int .i64)]
def IZ:ah:=IY.add 170 [(.pair (.int .u64) (.pair (.int .u64) .unit)),(.int .i64)] (dv (.pair (.int .u64) (.pair (.int .u64) .unit)) (.int .i64) Hf (fun _ r K=>K [tB r] none))
theorem o94:aO Tryz.prog IZ:=dz Hg Tryz.f170 (fun R kk x0 x1 K=>WJ x0 x1 (fun a0=>K [tB a0] none)) o93 (ek _ _ _ _) Tryz.func170 (by kernel_rfl) rfl (fun _ _ _ _ _ _ h=>h _ _) (fun _ _ _ _ _=>by kernel_rfl) fun R kk e x0 x1 K=>by
 simp only[Hf,WJ,aE]
def He:Env:=e0 [(.pair (.int .u64) (.pair (.int .u64) .unit))]
def wN:ah:=IZ.add 171 [(.pair (.int .u64) (.pair (.int .u64) .unit))] (cK (.pair (.int .u64) (.pair (.int .u64) .unit)) QQ (fun _ r K=>K [.aj (.int .u64) r.1 [],.aj (.int .u64) r.2 []] none))
theorem o95:aO Tryz.prog wN:=cN He Tryz.f171 (fun R kk x0 K=>Dp x0 (fun a0 a1=>K [.aj (.int .u64) a0 [],.aj (.int .u64) a1 []] none)) o94 (ek _ _ _ _) Tryz.func171 (by kernel_rfl) rfl (fun _ _ _ _ _ _ h=>h _ _) (fun _ _ _ _=>by kernel_rfl) fun R kk e x0 K=>by
 simp only[QQ,Dp,aE]
def vR:Env:=b9.env (fun i=>bif Nat.beq i 3 then [0,2,3,5] else []) (fun i=>bif Nat.beq i 3 then [2,3] else []) [2] [(.int .u64)]
def pq(a b:Int)(c d:(List Int)):Option R:=aB (ev vR (wN R) kk (sub [1,1,0,1,0,0] (cd Tryz.f172))) [0,2,3,5] [2,3] k ⟨[.aj (.int .u64) a []]::uS 1 ([.ptr 3 (.arr 8 (.int .u8)) []]::[.ptr 4 (.arr 8 (.int .u8)) []]::uS 1 ([tI b]::uS 12 [])),nS 3 ((some ⟨(.arr 8 (.int .u8)),c,[]⟩)::(some ⟨(.arr 8 (.int .u8)),d,[]⟩)::nS 14 [])⟩ J
def CM(a b:(List Int)):State:=⟨uS 2 ([.ptr 3 (.arr 8 (.int .u8)) []]::[.ptr 4 (.arr 8 (.int .u8)) []]::uS 14 []),nS 3 ((some ⟨(.arr 8 (.int .u8)),a,[]⟩)::(some ⟨(.arr 8 (.int .u8)),b,[]⟩)::nS 14 [])⟩
def yw:KX R:=(zj 0 (aT vR (wN R) kk (sub [1,1,1] (cd Tryz.f172)) (aS vR Tryz.f172.results.toList none K)))
theorem HP(a b:Int)(c d:(List Int)):pq R kk (k+1) J a b c d=
 mK a b c d (pq R kk k J) (fun a0 a1=>J (.exit 0) (CM a0 a1)):=by kernel_rfl
theorem alO(a b:(List Int)):yw R kk K (.exit 0) (CM a b)=
 pu a b (fun a0=>K [.aj (.arr 8 (.int .u8)) a0 []] none):=by kernel_rfl
theorem anS{kk:Nat}(hF:kk=ag)(x_0 t5:Int)(dB dc:(List Int)):pq R kk k J x_0 t5 dB dc=(hI k x_0 t5 dB dc).bind fun e=>J (.exit 0) (CM e.1 e.2):=by
 induction k generalizing x_0 t5 dB dc with
 |zero=>rfl
 |succ k ih=>
  rw[HP]
  simp only[hI,mK,ih,aE]
def wO:ah:=wN.add 172 [(.int .u64)] (cK (.int .u64) Q8 (fun _ r K=>K [.aj (.arr 8 (.int .u8)) r []] none))
theorem o96:aO Tryz.prog wO:=cN vR Tryz.f172 (fun R kk x0 K=>pr x0 (pq R kk kk (yw R kk K))) o95 (ek _ _ _ _) Tryz.func172 (by kernel_rfl) rfl (fun _ _ _ _ _ _ h=>h _ _) (fun _ _ _ _=>by kernel_rfl) fun R kk e x0 K=>by
 simp only[Q8,pr,pu,anS (hF:=e),alO,aE,<-e]
def VZ:Env:=b9.env (fun i=>bif Nat.beq i 3 then [0,3,4] else []) (fun i=>bif Nat.beq i 3 then [3] else []) [] [.str]
def TJ(a:ByteArray)(b:(List Int))(c:Int):Option R:=aB (ev VZ (wO R) kk (sub [1,1,0,1,0,0] (cd Tryz.f173))) [0,3,4] [3] k ⟨[tS a]::uS 2 ([.aj (.sl 5 (.int .u8)) b [[]]]::[tI c]::uS 25 []),nS 31 []⟩ J
def zf3(a:(List Int)):State:=⟨uS 3 ([.aj (.sl 5 (.int .u8)) a [[]]]::uS 26 []),nS 31 []⟩
def Ni:KX R:=(zj 0 (aT VZ (wO R) kk (sub [1,1,1] (cd Tryz.f173)) (aS VZ Tryz.f173.results.toList none K)))
theorem akU(a:ByteArray)(b:(List Int))(c:Int):TJ R kk (k+1) J a b c=
 PD a b c (TJ R kk k J) (fun a0=>J (.exit 0) (zf3 a0)):=by kernel_rfl
theorem aeq(a:(List Int)):Ni R kk K (.exit 0) (zf3 a)=
 zxz a (fun a0=>K [tS a0] none):=by kernel_rfl
theorem ahP{kk:Nat}(hF:kk=ag)(iM:ByteArray)(t3:(List Int))(t4:Int):TJ R kk k J iM t3 t4=(EM k iM t3 t4).bind fun e=>J (.exit 0) (zf3 e):=by
 induction k generalizing iM t3 t4 with
 |zero=>rfl
 |succ k ih=>
  rw[akU]
  simp only[EM,PD,ih,aE]
def I0:ah:=wO.add 173 [.str] (cK .str jH (fun _ r K=>K [tS r] none))
theorem o97:aO Tryz.prog I0:=cN VZ Tryz.f173 (fun R kk x0 K=>TK x0 (TJ R kk kk (Ni R kk K))) o96 (ek _ _ _ _) Tryz.func173 (by kernel_rfl) rfl (fun _ _ _ _ _ _ h=>h _ _) (fun _ _ _ _=>by kernel_rfl) fun R kk e x0 K=>by
 simp only[jH,TK,zxz,ahP (hF:=e),aeq,aE,<-e]
def X5:Env:=e0 [(.int .i64),(.pair (.int .u64) (.pair (.int .u64) .unit))]
def wP:ah:=I0.add 125 [(.int .i64),(.pair (.int .u64) (.pair (.int .u64) .unit))] (dv (.int .i64) (.pair (.int .u64) (.pair (.int .u64) .unit)) Q6 (fun _ r K=>K [tS r.1,tI r.2] none))
theorem o98:aO Tryz.prog wP:=dz X5 Tryz.f125 (fun R kk x0 x1 K=>pd x0 x1 (fun a0 a1=>K [tS a0,tI a1] none)) o97 (ek _ _ _ _) Tryz.func125 (by kernel_rfl) rfl (fun _ _ _ _ _ _ h=>h _ _) (fun _ _ _ _ _=>by kernel_rfl) fun R kk e x0 x1 K=>by
 simp only[Q6,pd,aE]
def oN:Env:=b9.env (fun i=>bif Nat.beq i 5 then [0,6,7,19] else []) (fun i=>bif Nat.beq i 5 then [0,6,19] else []) [] [(.int .i64),(.int .i64)]
def WB(a:Int)(b:Nat)(c:Int)(d:Nat)(e:(List Int)):Option R:=aB (ev oN (wP R) kk (sub [1,1,1,0,1,0,0] (cd Tryz.f211))) [0,6,7,19] [0,6,19] k ⟨[tI a]::uS 5 ([.ptr 20 (.aJ (.iG b) (.int .u8) .unit) []]::[tI c]::uS 11 ([.ptr 20 (.aJ (.iG d) (.int .u8) .unit) []]::uS 19 [])),nS 20 ((some ⟨(.aJ .row (.int .u8) .unit),e,[]⟩)::nS 19 [])⟩ J
def zp2(a:Int)(b c:Nat)(d:(List Int)):State:=⟨[tI a]::uS 5 ([.ptr 20 (.aJ (.iG b) (.int .u8) .unit) []]::uS 12 ([.ptr 20 (.aJ (.iG c) (.int .u8) .unit) []]::uS 19 [])),nS 20 ((some ⟨(.aJ .row (.int .u8) .unit),d,[]⟩)::nS 19 [])⟩
def N8:KX R:=(zj 0 (aT oN (wP R) kk (sub [1,1,1,1] (cd Tryz.f211)) (aS oN Tryz.f211.results.toList none K)))
theorem anA(a:Int)(b:Nat)(c:Int)(d:Nat)(e:(List Int)):WB R kk (k+1) J a b c d e=
 Qj a b c d e (WB R kk k J) (fun a0 a1 a2 a3=>J (.exit 0) (zp2 a0 a1 a2 a3)):=by kernel_rfl
theorem ait(a:Int)(b c:Nat)(d:(List Int)):N8 R kk K (.exit 0) (zp2 a b c d)=
 WD a b c d (fun a0 a1=>K [tS a0,tB a1] none):=by kernel_rfl
theorem alw{kk:Nat}(hF:kk=ag)(ZB:Int)(ZD:Nat)(t7:Int)(Cg:Nat)(BB:(List Int)):WB R kk k J ZB ZD t7 Cg BB=(E4 k ZB ZD t7 Cg BB).bind fun e=>J (.exit 0) (zp2 e.1 e.2.1 e.2.2.1 e.2.2.2):=by
 induction k generalizing ZB ZD t7 Cg BB with
 |zero=>rfl
 |succ k ih=>
  rw[anA]
  simp only[E4,Qj,ih,aE]
def I1:ah:=wP.add 211 [(.int .i64),(.int .i64)] (dv (.int .i64) (.int .i64) Ha (fun _ r K=>K [tS r.1,tB r.2] none))
theorem o99:aO Tryz.prog I1:=dz oN Tryz.f211 (fun R kk x0 x1 K=>WC x0 x1 (fun a0 a1=>K [tS a0,tB a1] none) (WB R kk kk (N8 R kk K))) o98 (ek _ _ _ _) Tryz.func211 (by kernel_rfl) rfl (fun _ _ _ _ _ _ h=>h _ _) (fun _ _ _ _ _=>by kernel_rfl) fun R kk e x0 x1 K=>by
 simp only[Ha,WC,WD,alw (hF:=e),ait,aE,<-e]
def am3:Env:=e0 [(.int .i64),(.int .i64),(.int .i64)]
def yy:ah:=I1.add 175 [(.int .i64),(.int .i64),(.int .i64)] (kh (.int .i64) (.int .i64) (.int .i64) qD (fun _ r K=>K [tS r.1,tI r.2] none))
theorem ZF:aO Tryz.prog yy:=ku am3 Tryz.f175 (fun R kk x0 x1 x2 K=>T4 x0 x1 x2 (fun a0 a1=>K [tS a0,tI a1] none)) o99 (ek _ _ _ _) Tryz.func175 (by kernel_rfl) rfl (fun _ _ _ _ _ _ h=>h _ _) (fun _ _ _ _ _ _=>by kernel_rfl) fun R kk e x0 x1 x2 K=>by
 simp only[qD,T4,aE]
def GV:Env:=e0 [(.int .i64),cJ,.str]
def yz:ah:=yy.add 127 [(.int .i64),cJ,.str] (kh (.int .i64) cJ .str Bh (fun _ r K=>K [tS r.1,tI r.2] none))
theorem Ch:aO Tryz.prog yz:=ku GV Tryz.f127 (fun R kk x0 x1 x2 K=>VM x0 x1 x2 (fun a0 a1=>K [tS a0,tI a1] none)) ZF (ek _ _ _ _) Tryz.func127 (by kernel_rfl) rfl (fun _ _ _ _ _ _ h=>h _ _) (fun _ _ _ _ _ _=>by kernel_rfl) fun R kk e x0 x1 x2 K=>by
 simp only[Bh,VM,aE]
def Tryz.iZ:Go.Shelf.Ren:=⟨fun|169=>128|n=>n,fun|70=>196|9=>9|0=>0|72=>198|37=>99|127=>256|3=>3|5=>5|n=>n,fun n=>n⟩
theorem Tryz.xp:Go.Proofs.Lays.n169 Go.Proofs.Tryz.prog Tryz.iZ:={
 mixed:=by kernel_rfl,
 f169:=Go.Proofs.Tryz.func128.trans (congrArg some (by kernel_rfl)),
 t0:=Go.Proofs.Tryz.underlying0,
 a0:=Go.Proofs.Tryz.isAgg0,
 z0:=Go.Proofs.Tryz.sizeOf0,
 v0:=Go.Proofs.Tryz.zeroValue0,
 t3:=Go.Proofs.Tryz.underlying3,
 a3:=Go.Proofs.Tryz.isAgg3,
 z3:=Go.Proofs.Tryz.sizeOf3,
 v3:=Go.Proofs.Tryz.zeroValue3,
 t9:=Go.Proofs.Tryz.underlying9,
 a9:=Go.Proofs.Tryz.isAgg9,
 z9:=Go.Proofs.Tryz.sizeOf9,
 v9:=Go.Proofs.Tryz.zeroValue9,
 t37:=Go.Proofs.Tryz.underlying99,
 a37:=Go.Proofs.Tryz.isAgg99,
 z37:=Go.Proofs.Tryz.sizeOf99,
 v37:=Go.Proofs.Tryz.zeroValue99,
 t70:=Go.Proofs.Tryz.underlying196,
 a70:=Go.Proofs.Tryz.isAgg196,
 z70:=Go.Proofs.Tryz.sizeOf196,
 v70:=Go.Proofs.Tryz.zeroValue196,
 t72:=Go.Proofs.Tryz.underlying198,
 a72:=Go.Proofs.Tryz.isAgg198,
 z72:=Go.Proofs.Tryz.sizeOf198,
 v72:=Go.Proofs.Tryz.zeroValue198,
 t127:=Go.Proofs.Tryz.underlying256,
 a127:=Go.Proofs.Tryz.isAgg256,
 z127:=Go.Proofs.Tryz.sizeOf256,
 v127:=Go.Proofs.Tryz.zeroValue256}
theorem Tryz.tE:Go.Proofs.Builder.Extra Go.Proofs.Tryz.prog Tryz.iZ:={
 sizeBuilder:=by kernel_rfl,
 liesBuilder:=by kernel_rfl,
 t5:=Go.Proofs.Tryz.underlying5,
 a5:=Go.Proofs.Tryz.isAgg5,
 z5:=Go.Proofs.Tryz.sizeOf5,
 v5:=Go.Proofs.Tryz.zeroValue5,
 infoByte:=by kernel_rfl,
 cellsByte:=by kernel_rfl,
 sizeByte:=by kernel_rfl,
 neB5:=by decide}
noncomputable abbrev z9o:Code:=Tryz.f128.body.getD .skip
theorem z7n:rK Tryz.prog 128:=⟨Tryz.f128,z9o,Tryz.func128,by kernel_rfl,by kernel_rfl⟩
def pE:ah:=yz.add 128 [] (QC 198 5)
theorem ZG:aO Tryz.prog pE:=⟨Ch.mix,Vn Ch.nat (anY _ _),afr Ch.uu z7n Tryz.xp Tryz.tE rfl rfl rfl⟩
def Wr:Env:={b9.env (fun i=>bif Nat.beq i 11 then [2,5,7,8,50,51,52] else []) (fun i=>bif Nat.beq i 11 then [5,7] else []) [5] [aK,y8] with bl:=fun t=>bif Nat.beq t 198 then some 5 else none}
def U3(a:ak)(b c:Int)(d:af)(e:aQ)(f:ByteArray):Option R:=aB (ev Wr (pE R) kk (sub [1,1,1,1,1,1,1,1,0,1,0,0] (cd Tryz.f89))) [2,5,7,8,50,51,52] [5,7] k ⟨uS 2 ([.ptr 3 aK []]::uS 2 ([.ptr 6 (.pair (.int .i64) (.pair (.int .i64) .unit)) []]::uS 1 ([.ptr 8 (.aJ (.gn 198 5) .unit .unit) []]::[.ptr 8 (.aJ (.rM 122) (.aJ (.gn 198 5) .unit .unit) .unit) []]::uS 41 ([.aj (.sl 208 (.pair (.int .i64) (.pair .str .unit))) a []]::[tI b]::[tI c]::uS 25 [])))),nS 3 ((some ⟨aK,d,[]⟩)::nS 2 ((some ⟨(.pair (.int .i64) (.pair (.int .i64) .unit)),e,[]⟩)::nS 1 ((some ⟨(.aJ (.gn 198 5) .unit .unit),f,[[]]⟩)::nS 70 [])))⟩ J
def zg7(a:aQ)(b:ByteArray):State:=⟨uS 5 ([.ptr 6 (.pair (.int .i64) (.pair (.int .i64) .unit)) []]::uS 1 ([.ptr 8 (.aJ (.gn 198 5) .unit .unit) []]::uS 70 [])),nS 6 ((some ⟨(.pair (.int .i64) (.pair (.int .i64) .unit)),a,[]⟩)::nS 1 ((some ⟨(.aJ (.gn 198 5) .unit .unit),b,[[]]⟩)::nS 70 []))⟩
def Nr:KX R:=(zj 0 (aT Wr (pE R) kk (sub [1,1,1,1,1,1,1,1,1] (cd Tryz.f89)) (aS Wr Tryz.f89.results.toList none K)))
theorem alk(a:ak)(b c:Int)(d:af)(e:aQ)(f:ByteArray):U3 R kk (k+1) J a b c d e f=
 zzo a b c d e f (U3 R kk k J) (fun a0 a1=>J (.exit 0) (zg7 a0 a1)):=by kernel_rfl
theorem ae1(a:aQ)(b:ByteArray):Nr R kk K (.exit 0) (zg7 a b)=
 zzp a b (fun a0 a1=>K [tS a0,.aj (.pair (.int .i64) (.pair (.int .i64) .unit)) a1 []] none):=by kernel_rfl
theorem aii{kk:Nat}(hF:kk=ag)(t50:ak)(t51 t52:Int)(dB:af)(dV:aQ)(lN:ByteArray):U3 R kk k J t50 t51 t52 dB dV lN=(PW k t50 t51 t52 dB dV lN).bind fun e=>J (.exit 0) (zg7 e.1 e.2):=by
 induction k generalizing t50 t51 t52 dB dV lN with
 |zero=>rfl
 |succ k ih=>
  rw[alk]
  simp only[PW,zzo,ih,aE]
def yA:ah:=pE.add 89 [aK,y8] (dv aK y8 nY (fun _ r K=>K [tS r.1,.aj (.pair (.int .i64) (.pair (.int .i64) .unit)) r.2 []] none))
theorem ZH:aO Tryz.prog yA:=dz Wr Tryz.f89 (fun R kk x0 x1 K=>U4 x0 x1 (fun a0 a1=>K [tS a0,.aj (.pair (.int .i64) (.pair (.int .i64) .unit)) a1 []] none) (U3 R kk kk (Nr R kk K))) ZG ((ek _ _ _ _).gn 198 5 (by kernel_rfl)) Tryz.func89 (by kernel_rfl) rfl (fun _ _ _ _ _ _ h=>h _ _) (fun _ _ _ _ _=>by kernel_rfl) fun R kk e x0 x1 K=>by
 simp only[nY,U4,zzp,aii (hF:=e),ae1,aE,<-e]
def ana:Env:=e0 [y8,(.pair (.int .i64) (.pair (.int .i64) .unit)),.unit,.unit]
def pF:ah:=yA.add 87 [y8,(.pair (.int .i64) (.pair (.int .i64) .unit)),.unit,.unit] (pv y8 (.pair (.int .i64) (.pair (.int .i64) .unit)) cw bM ky (fun _ r K=>K [tI r.1,tS r.2] none))
theorem ZI:aO Tryz.prog pF:=sv ana Tryz.f87 (fun R kk x0 x1 x2 x3 K=>Un x0 x1 x2 x3 (fun a0 a1=>K [tI a0,tS a1] none)) ZH (ek _ _ _ _) Tryz.func87 (by kernel_rfl) rfl (fun _ _ _ _ _ _ h=>h _ _) (fun _ _ _ _ _ _ _=>by kernel_rfl) fun R kk e x0 x1 x2 x3 K=>by
 simp only[ky,Un,aE]
def Wt:Env:=b9.env (fun i=>bif Nat.beq i 2 then [1,9,10,11] else []) (fun i=>bif Nat.beq i 2 then [4,5] else []) [] [cD,.str]
def Vk(a:ByteArray)(b:aN)(c d:Int):Option R:=aB (ev Wt (pF R) kk (sub [1,0,1,0,0] (cd Tryz.f133))) [1,9,10,11] [4,5] k ⟨uS 1 ([tS a]::uS 7 ([.aj (.sl 109 (.pair .str (.pair .str .unit))) b []]::[tI c]::[tI d]::uS 10 [])),nS 23 []⟩ J
def zgj(a:ByteArray)(b:Bool):State:=⟨uS 4 ([tS a]::[tB b]::uS 16 []),nS 23 []⟩
def zgk:State:=⟨uS 22 [],nS 23 []⟩
def CG:KX R:=(zj 0 (aT Wt (pF R) kk (sub [1,1] (cd Tryz.f133)) (aS Wt Tryz.f133.results.toList none K)))
theorem als(a:ByteArray)(b:aN)(c d:Int):Vk R kk (k+1) J a b c d=
 CH a b c d (fun a0 a1=>J .ret (zgj a0 a1)) (Vk R kk k J) (J (.exit 0) (zgk)):=by kernel_rfl
theorem afd(a:ByteArray)(b:Bool):CG R kk K .ret (zgj a b)=
 CI a b (fun a0 a1=>K [tS a0,tB a1] none):=by kernel_rfl
theorem afe:CG R kk K (.exit 0) (zgk)=
 CJ (fun a0 a1=>K [tS a0,tB a1] none):=by kernel_rfl
theorem aip{kk:Nat}(hF:kk=ag)(t_1:ByteArray)(t9:aN)(t10 t11:Int):Vk R kk k J t_1 t9 t10 t11=(P1 k t_1 t9 t10 t11).bind fun e=>(Sum.elim (fun(we:jy)=>J .ret (zgj we.1 we.2)) (fun(we:Unit)=>J (.exit 0) (zgk)) e):=by
 induction k generalizing t_1 t9 t10 t11 with
 |zero=>rfl
 |succ k ih=>
  rw[als]
  simp only[P1,CH,ih,aE]
def pG:ah:=pF.add 133 [cD,.str] (dv cD .str te (fun _ r K=>K [tS r.1,tB r.2] none))
theorem ZJ:aO Tryz.prog pG:=dz Wt Tryz.f133 (fun R kk x0 x1 K=>Vl x0 x1 (Vk R kk kk (CG R kk K))) ZI (ek _ _ _ _) Tryz.func133 (by kernel_rfl) rfl (fun _ _ _ _ _ _ h=>h _ _) (fun _ _ _ _ _=>by kernel_rfl) fun R kk e x0 x1 K=>by
 simp only[te,Vl,CI,CJ,aip (hF:=e),afd,afe,aE,<-e]
def Ws:Env:={b9.env (fun i=>bif Nat.beq i 2 then [1,4,9,10,11] else []) (fun i=>bif Nat.beq i 2 then [4,5] else []) [4] [cD,(.int .i64)] with ro:=true}
def Vi(a:Int)(b:bQ)(c d:Int)(e:aF):Option R:=aB (ev Ws (pG R) kk (sub [1,0,1,0,0] (cd Tryz.f134))) [1,4,9,10,11] [4,5] k ⟨uS 1 ([tI a]::uS 2 ([.ptr 5 cA []]::uS 4 ([.aj (.sl 102 cA) b []]::[tI c]::[tI d]::uS 10 []))),nS 5 ((some ⟨cA,e,[[4]]⟩)::nS 17 [])⟩ J
def zgh(a:Bool)(b:aF):State:=⟨uS 4 ([.ptr 5 cA []]::[tB a]::uS 16 []),nS 5 ((some ⟨cA,b,[]⟩)::nS 17 [])⟩
def zgi(a:aF):State:=⟨uS 4 ([.ptr 5 cA []]::uS 17 []),nS 5 ((some ⟨cA,a,[[4]]⟩)::nS 17 [])⟩
def CE:KX R:=(zj 0 (aT Ws (pG R) kk (sub [1,1] (cd Tryz.f134)) (aS Ws Tryz.f134.results.toList none K)))
theorem alr(a:Int)(b:bQ)(c d:Int)(e:aF):Vi R kk (k+1) J a b c d e=
 z105 a b c d e (fun a0 a1=>J .ret (zgh a0 a1)) (Vi R kk k J) (fun a0=>J (.exit 0) (zgi a0)):=by kernel_rfl
theorem afb(a:Bool)(b:aF):CE R kk K .ret (zgh a b)=
 CF a b (fun a0 a1=>K [.aj cA a0 [],tB a1] none):=by kernel_rfl
theorem afc(a:aF):CE R kk K (.exit 0) (zgi a)=
 z107 a (fun a0 a1=>K [.aj cA a0 [],tB a1] none):=by kernel_rfl
theorem aio{kk:Nat}(hF:kk=ag)(fk:Int)(t9:bQ)(t10 t11:Int)(cP:aF):Vi R kk k J fk t9 t10 t11 cP=(P0 k fk t9 t10 t11 cP).bind fun e=>(Sum.elim (fun(we:(Bool×aF))=>J .ret (zgh we.1 we.2)) (fun(we:aF)=>J (.exit 0) (zgi we)) e):=by
 induction k generalizing fk t9 t10 t11 cP with
 |zero=>rfl
 |succ k ih=>
  rw[alr]
  simp only[P0,z105,ih,aE]
def yB:ah:=pG.add 134 [cD,(.int .i64)] (dv cD (.int .i64) nZ (fun _ r K=>K [.aj cA r.1 [],tB r.2] none))
theorem Ci:aO Tryz.prog yB:=dz Ws Tryz.f134 (fun R kk x0 x1 K=>Vj x0 x1 (Vi R kk kk (CE R kk K))) ZJ ((ek _ _ _ _).ro _) Tryz.func134 (by kernel_rfl) rfl (fun _ _ _ _ _ _ h=>h _ _) (fun _ _ _ _ _=>by kernel_rfl) fun R kk e x0 x1 K=>by
 simp only[nZ,Vj,CF,z107,aio (hF:=e),afb,afc,aE,<-e]
end
end Go.Proofs.YtpjkbbihjoflnaaGreatDoor

