/- No condition. -/
import Derived.Test.YtpjkbbihjoflnaaGreatDoorK3
import Derived.Test.YtpjkbbihjoflnaaGreatDoorProg
set_option linter.unusedVariables false
set_option linter.unusedSimpArgs false
set_option maxRecDepth 100000
namespace bE
open Go.IntKind renaming wrap->zW,i64->zI,u8->zU
open Go Go.Ref
abbrev Ax:Ty:= .pair .str (.pair .str .unit)
abbrev JO:Ty:= .pair (.int .i64) (.pair (.int .i64) (.pair (.int .i64) (.pair .str (.pair (.sl 0 Ax) .unit))))
abbrev JN:Ty:= .pair (.sl 0 Ax) (.pair (.sl 0 JO) .unit)
def small(n:Nat)(l:List bB):Bool:=l.all fun p=> !decide ((n:Int)<(p.1.size:Int))&& !decide ((n:Int)<(p.2.1.size:Int))
theorem Ma{n:Nat}{l:List bB}(hn:n<=1200)(h:small n l=true):∀p∈l,p.1.size<=1099511627776/\p.2.1.size<=1099511627776:=fun p hp=>by
 have:=List.all_eq_true.1 h p hp
 simp only[Bool.and_eq_true,Bool.not_eq_true',decide_eq_false_iff_not] at this
 omega
def grR(t:Bool):Option (Sum Bool Unit):=some (bif t then .inr () else .inl true)
theorem NK:∀(l:List bB) (i:Int),bm (fun i (p:bB) (s:Unit) K=>bif(decide (1200<((p.1).size:Int))) then some (Sum.inl true) else(bif(decide (1200<((p.2.1).size:Int))) then some (Sum.inl true) else K s)) (fun _=>some (Sum.inr ())) l i ()=grR (small 1200 l)
 | [],i=>rfl
 |p::r,i=>by
  simp only[bm,small,List.all_cons]
  by_cases h1:(1200:Int)<(p.1.size:Int)
  ·rw[zT h1,zT (show((1200:Nat):Int)<(p.1.size:Int) from h1)];rfl
  ·rw[zF h1,zF (show¬((1200:Nat):Int)<(p.1.size:Int) from h1)]
   by_cases h2:(1200:Int)<(p.2.1.size:Int)
   ·rw[zT h2,zT (show((1200:Nat):Int)<(p.2.1.size:Int) from h2)];rfl
   ·rw[zF h2,zF (show¬((1200:Nat):Int)<(p.2.1.size:Int) from h2)]
    exact NK r (i+1)
def xQ(r:aV):Bool:=decide ((1200:Int)<(r.2.2.2.1.size:Int))||(decide ((300:Int)<(r.2.2.2.2.1.length:Int))|| !small 1200 r.2.2.2.2.1)
theorem abv(r:aV)(h:r.2.2.2.2.1.length<=maxLen):nI r=some (xQ r):=by
 unfold nI RV xQ
 cases decide ((1200:Int)<(r.2.2.2.1.size:Int)) with
 |true=>rfl
 |false=>
  cases decide ((300:Int)<(r.2.2.2.2.1.length:Int)) with
  |true=>rfl
  |false=>
   simp only[zD,Bool.false_or]
   have:=m5 iV r.2.2.2.2.1 h (fun i (p:bB) (s:Unit) K=>bif(decide (1200<((p.1).size:Int))) then some (Sum.inl true) else(bif(decide (1200<((p.2.1).size:Int))) then some (Sum.inl true) else K s)) (fun _=>some (Sum.inr ()))
    (fun k i s=>xF k i r) (fun k i s h0 h1=>by
      show xF (k+1) i r=_
      conv=>lhs;unfold xF OC
      rw[zT h1,zC,zm h0 h1,zm h0 h1]
      rfl) (fun k s=>by
      show xF (k+1) r.2.2.2.2.1.length r=_
      conv=>lhs;unfold xF OC
      rw[zF (by omega),zD]) ()
   rw[this,NK]
   unfold grR
   cases small 1200 r.2.2.2.2.1<;>rfl
theorem aeZ{r:aV}(h:xQ r=false):dO r:=by
 unfold xQ at h
 simp only[Bool.or_eq_false_iff,decide_eq_false_iff_not,Bool.not_eq_false'] at h
 obtain⟨h1,h2,h3⟩:=h
 exact⟨by omega,by omega,Ma (by omega) h3⟩
theorem NJ(m:Map):∀(l:List bB) (i:Int),bm (fun i (p:bB) (s:Unit) K=>bif(decide (100<((p.1).size:Int))) then some (Sum.inl (true,m)) else(bif(decide (100<((p.2.1).size:Int))) then some (Sum.inl (true,m)) else K s)) (fun _=>some (Sum.inr m)) l i ()=some (bif small 100 l then .inr m else .inl (true,m))
 | [],i=>rfl
 |p::r,i=>by
  simp only[bm,small,List.all_cons]
  by_cases h1:(100:Int)<(p.1.size:Int)
  ·rw[zT h1,zT (show((100:Nat):Int)<(p.1.size:Int) from h1)];rfl
  ·rw[zF h1,zF (show¬((100:Nat):Int)<(p.1.size:Int) from h1)]
   by_cases h2:(100:Int)<(p.2.1.size:Int)
   ·rw[zT h2,zT (show((100:Nat):Int)<(p.2.1.size:Int) from h2)];rfl
   ·rw[zF h2,zF (show¬((100:Nat):Int)<(p.2.1.size:Int) from h2)]
    exact NJ m r (i+1)
theorem NI:∀(l:List aV) (i:Int),(∀r∈l,r.2.2.2.2.1.length<=maxLen)->bm (fun i (x:aV) (s:Unit) K=>((nI x).bind fun r1=>(bif r1 then some (Sum.inl true) else K s))) (fun _=>some (Sum.inr ())) l i ()=some (bif l.any xQ then Sum.inl true else Sum.inr ())
 | [],i,_=>rfl
 |r::l,i,h=>by
  simp only[bm,List.any_cons]
  rw[abv r (h r List.mem_cons_self),Option.bind_some]
  cases xQ r with
  |true=>rfl
  |false=>exact NI l (i+1) fun q hq=>h q (List.mem_cons_of_mem _ hq)
def AY(m:Map):Bool:=decide ((300:Int)<(m.1.length:Int))||(decide ((300:Int)<(m.2.1.length:Int))||(!small 100 m.1||m.2.1.any xQ))
theorem abw(m:Map)(h1:m.1.length<=maxLen)(h2:m.2.1.length<=maxLen)(h3:∀r∈m.2.1,r.2.2.2.2.1.length<=maxLen):ly m=some (AY m):=by
 unfold ly R8 AY
 cases decide ((300:Int)<(m.1.length:Int)) with
 |true=>rfl
 |false=>
  cases decide ((300:Int)<(m.2.1.length:Int)) with
  |true=>rfl
  |false=>
   simp only[zD,Bool.false_or]
   have e1:=m5 iV m.1 h1 (fun i (p:bB) (s:Unit) K=>bif(decide (100<((p.1).size:Int))) then some (Sum.inl (true,m)) else(bif(decide (100<((p.2.1).size:Int))) then some (Sum.inl (true,m)) else K s)) (fun _=>some (Sum.inr m))
    (fun k i s=>xG k i m) (fun k i s h0 h1=>by
      show xG (k+1) i m=_
      conv=>lhs;unfold xG OJ
      rw[zT h1,zC,zm h0 h1,zm h0 h1]
      rfl) (fun k s=>by
      show xG (k+1) m.1.length m=_
      conv=>lhs;unfold xG OJ
      rw[zF (by omega),zD]) ()
   rw[e1,NJ]
   cases small 100 m.1 with
   |false=>rfl
   |true=>
    simp only[zC,Option.bind_some,Sum.elim_inr,Bool.not_true,Bool.false_or]
    unfold R9
    have e2:=ct gx m.2.1 h2 (fun i (x:aV) (s:Unit) K=>((nI x).bind fun r1=>(bif r1 then some (Sum.inl true) else K s))) (fun _=>some (Sum.inr ()))
     (fun k i s=>OI k i m) (fun k i s=>rfl) ()
    dsimp only
    rw[e2,NI _ _ h3]
    cases m.2.1.any xQ<;>rfl
theorem Ky{m:Map}(h:AY m=false):dE m:=by
 unfold AY at h
 simp only[Bool.or_eq_false_iff,decide_eq_false_iff_not,Bool.not_eq_false'] at h
 obtain⟨h1,h2,h3,h4⟩:=h
 refine⟨⟨by omega,Ma (by omega) h3⟩,by omega,fun r hr=>aeZ ?_⟩
 cases hg:xQ r with
 |false=>rfl
 |true=>rw[List.any_eq_true.2 ⟨r,hr,hg⟩] at h4;cases h4
theorem Mj{m:Map}(h:Wf JN m):ly m=some (AY m):=
 abw m h.1.1 h.2.1.1 fun r hr=>(h.2.1.2 r hr).2.2.2.2.1.1
theorem aaW{r:aV}{b:zf}{t:ByteArray}(ht:t.size<=1099511627776)(hr:dO r):(gd r b t).1.2.1.size<=1099511627776:=by
 have h0:(bs []).size<=1099511627776:=by decide
 unfold gd
 cases decide (r.1=1) with
 |true=>exact ht
 |false=>
  rw[zD]
  cases decide (r.1=2) with
  |true=>exact h0
  |false=>
   rw[zD]
   cases decide (r.1=3) with
   |true=>exact hr.text
   |false=>
    rw[zD]
    cases decide (r.1=4) with
    |true=>
     rw[zC]
     cases bp b r.2.2.1 with
     |false=>exact h0
     |true=>
      rw[Bool.not_true,zD]
      cases hp:(fy t (aX b r.2.2.1).2.2.2.1).2 with
      |false=>exact h0
      |true=>
       obtain⟨p1,p2,p3,p4⟩:=Nf hp
       show(fy t (aX b r.2.2.1).2.2.2.1).1.size<=_
       omega
    |false=>
     rw[zD]
     cases decide (r.1=5) with
     |true=>
      rw[zC]
      cases hp:(zw r.2.2.2.2.1 t).2 with
      |false=>exact h0
      |true=>
       obtain⟨p,hm,_,hq⟩:=zcw hp
       show(zw r.2.2.2.2.1 t).1.size<=_
       rw[hq]
       exact(hr.eY.sz p hm).2
     |false=>exact h0
theorem zhk{m:Map}{b:zf}:∀{l:List bg} {f:bY},kf m b l= .inl f->f.1≠0
 | [],f,h=>by cases h
 |v::r,f,h=>by
  rw[kf] at h
  cases hf:eP m v.1 with
  |none=>rw[hf] at h;cases h;exact(by decide:(9:Int)≠0)
  |some q=>
   rw[hf] at h
   dsimp only at h
   by_cases hz:(gd q b v.2.1).2=0
   ·rw[zT hz,Bool.not_true,zD] at h
    cases hr:kf m b r with
    |inl g=>rw[hr] at h;cases h;exact zhk hr
    |inr ys=>rw[hr] at h;cases h
   ·rw[zF hz,Bool.not_false,zC] at h
    cases h;exact hz
structure cn(m:Map)(a b:zf)(x:bL)(ys:List bg):Prop where
 map:eG m a b
 msg:kq a x
 head:(zw m.1 x.1).2=true
 uv:kf m b x.2.1= .inr ys
theorem z194(m:Map)(a b:zf)(x:bL):(∃f,f.1≠0/\rB m a b x=(dk,f))\/∃ys,cn m a b x ys/\rB m a b x=(((zw m.1 x.1).1,nz (ys++jy m.2.1) 127 2,()),kg):=by
 rw[zv9]
 unfold WS
 by_cases h1:(dq m a b).1=0
 ·rw[zT h1,Bool.not_true,zD]
  by_cases h2:(gl a x).1=0
  ·rw[zT h2,Bool.not_true,zD]
   cases h3:(zw m.1 x.1).2 with
   |false=>exact .inl ⟨_,by decide,rfl⟩
   |true=>
    rw[Bool.not_true,zD]
    cases h4:kf m b x.2.1 with
    |inl f=>exact .inl ⟨f,zhk h4,rfl⟩
    |inr ys=>exact .inr ⟨ys,⟨zpx.1 h1,Ou.1 h2,h3,h4⟩,rfl⟩
  ·rw[zF h2];exact .inl ⟨_,h2,rfl⟩
 ·rw[zF h1];exact .inl ⟨_,by decide,rfl⟩
theorem cn.eq{m:Map}{a b:zf}{x:bL}{ys:List bg}(h:cn m a b x ys):rB m a b x=(((zw m.1 x.1).1,nz (ys++jy m.2.1) 127 2,()),kg):=by
 rw[zv9]
 unfold WS
 rw[zT (zpx.2 h.map),Bool.not_true,zD,zT (Ou.2 h.msg),Bool.not_true,zD,h.head,h.uv]
 rfl
section
variable {m:Map} {a b:zf} {x:bL} {ys:List bg}
theorem cn.jk(h:cn m a b x ys):(∀v∈x.2.1,bp a v.1=true/\bJ (aX a v.1) v.2.1=0)/\jH x.2.1/\∀v∈x.2.1,0<v.1:=DK.1 h.msg.jk
theorem cn.ris(h:cn m a b x ys):jH (nz (ys++jy m.2.1) 127 2):=by
 obtain⟨g1,g2,g3⟩:=h.jk
 refine zd2 ?_ 127 2 (by omega)
 rw[zi7,zi8 h.map]
 exact ztw (J0 h.map g2 (fun v hv=>(g1 v hv).1) h.uv)
theorem cn.mem(h:cn m a b x ys)(v:bg):v∈nz (ys++jy m.2.1) 127 2↔v∈jy m.2.1\/(v∈ys/\v.1≠0):=by
 rw[QP,List.mem_append]
 have hr:=J1 h.map h.uv
 constructor
 ·rintro⟨h1|h1,h2,h3⟩
  ·exact .inr ⟨h1,by omega⟩
  ·exact .inl h1
 ·rintro(h1|⟨h1,h2⟩)
  ·have:=DO h.map.okB (hr v (List.mem_append_left _ h1))
   exact⟨.inr h1,by omega,by omega⟩
  ·have:=DO h.map.okB (hr v (List.mem_append_right _ (Fq.2 ⟨h1,h2⟩)))
   exact⟨.inl h1,by omega,by omega⟩
theorem cn.valid(h:cn m a b x ys)(hm:dE m)(hx:eJ x):∀v∈nz (ys++jy m.2.1) 127 2,bp b v.1=true/\v.2.1.size<=1099511627776/\bJ (aX b v.1) v.2.1=0:=by
 intro v hv
 obtain⟨g1,g2,g3⟩:=h.jk
 rcases(h.mem v).1 hv with hv|⟨hv,hz⟩
 ·obtain⟨r,hr,k,rfl⟩:=QS.1 hv
  have hc:=(QW (h.map.rules r hr)).2.2.2
  unfold jZ at hc
  rw[zF (by omega:¬r.1=1),zT k,zD,zC] at hc
  exact⟨h.map.to hr (by omega),(hm.rules r hr).text,hc⟩
 ·obtain⟨w,hw,q,hf,h0,rfl⟩:=N1 h.uv v hv
  obtain⟨b1,b2⟩:=Oc h0 hz
  obtain⟨qm,qf⟩:=Fm hf
  have hwt:=hx.rN w hw
  have:=(aaX (r:=q) (a:=a) (b:=b) hwt (hm.rules q qm) (h.map.rules q qm) h.map.okB (fun _=>by rw[qf];exact(g1 w hw).2)).2 h0
  obtain⟨e1,e2,e3⟩:=this.2 b1
  rw[b2]
  exact⟨e2,aaW hwt (hm.rules q qm),e3⟩
theorem afV{t:ByteArray}{v:Int}(h:im t v=true):fE t=true/\gb t=v:=by
 unfold im at h
 rw[Bool.and_eq_true,decide_eq_true_eq] at h
 refine⟨h.1,?_⟩
 unfold gb
 rw[h.1];exact h.2
theorem cn.tZ(h:cn m a b x ys):fE (zw m.1 x.1).1=true/\gb (zw m.1 x.1).1=b.2.1:=by
 obtain⟨p,hp,_,e⟩:=zcw h.head
 have ht:=h.map.typed p hp
 unfold nE at ht
 rw[Bool.and_eq_true,Bool.and_eq_true] at ht
 rw[e]
 exact afV ht.2.1
theorem cn.out(h:cn m a b x ys)(hm:dE m)(hx:eJ x):kq b ((zw m.1 x.1).1,nz (ys++jy m.2.1) 127 2,()):=by
 have hv:=h.valid hm hx
 refine⟨h.map.sb,h.tZ.1,h.tZ.2,DK.2 ⟨fun v hm=>⟨(hv v hm).1,(hv v hm).2.2⟩,h.ris,fun v hm=> ?_⟩⟩
 have:=DO h.map.okB (hv v hm).1
 omega
end
theorem Cx:∀{l:List bg} {lo:Int},jH l->(∀v∈l,lo<v.1/\v.1<=128)->(l.length:Int)<=max 0 (128-lo)
 | [],lo,_,_=>by simp;omega
 |x::r,lo,h,hr=>by
  have h:=List.pairwise_cons.1 h
  have hx:=hr x List.mem_cons_self
  have:=Cx (l:=r) (lo:=x.1) h.2 (fun v hv=>⟨h.1 v hv,(hr v (List.mem_cons_of_mem _ hv)).2⟩)
  simp only[List.length_cons]
  omega
theorem cn.ok{m:Map}{a b:zf}{x:bL}{ys:List bg}(h:cn m a b x ys)(hm:dE m)(hx:eJ x):eJ ((zw m.1 x.1).1,nz (ys++jy m.2.1) 127 2,()):=by
 have hv:=h.valid hm hx
 refine⟨?_,?_,fun v iQ=>(hv v iQ).2.1⟩
 ·have:=(q9.1 h.tZ.1).1
  show(zw m.1 x.1).1.size<=_
  omega
 ·have:=Cx (lo:=0) h.ris (fun v iQ=>by have:=DO h.map.okB (hv v iQ).1;omega)
  show(nz (ys++jy m.2.1) 127 2).length<=_
  omega
def Iw(m:Map)(b:zf)(v:bg):Prop:=∃q,eP m v.1=some q/\(gd q b v.2.1).2=0
theorem QT{m:Map}{b:zf}:∀{l:List bg},(∃ys,kf m b l= .inr ys)↔∀v∈l,Iw m b v
 | []=>⟨fun _ v hv=>(by cases hv),fun _=>⟨[],rfl⟩⟩
 |v::r=>by
  rw[kf]
  constructor
  ·rintro⟨ys,h⟩ w hw
   cases hf:eP m v.1 with
   |none=>rw[hf] at h;cases h
   |some q=>
    rw[hf] at h
    dsimp only at h
    cases hz:decide ((gd q b v.2.1).2=0) with
    |false=>rw[hz] at h;cases h
    |true=>
     rw[hz,Bool.not_true,zD] at h
     rcases List.mem_cons.1 hw with rfl|hw
     ·exact⟨q,hf,of_decide_eq_true hz⟩
     ·cases hr:kf m b r with
      |inl g=>rw[hr] at h;cases h
      |inr zs=>exact QT.1 ⟨zs,hr⟩ w hw
  ·intro h
   obtain⟨q,hf,hz⟩:=h v List.mem_cons_self
   obtain⟨zs,hr⟩:=QT.2 fun w hw=>h w (List.mem_cons_of_mem _ hw)
   rw[hf,hr]
   dsimp only
   rw[zT hz]
   exact⟨_,rfl⟩
theorem cn.part{m:Map}{a b:zf}{x:bL}{ys:List bg}(h:cn m a b x ys){l:List bg}(hl:List.Sublist l x.2.1):∃zs,cn m a b (x.1,l,()) zs:=by
 obtain⟨g1,g2,g3⟩:=h.jk
 obtain⟨zs,hz⟩:=QT.2 fun v hv=>QT.1 ⟨ys,h.uv⟩ v (hl.subset hv)
 exact⟨zs,h.map,⟨h.msg.ig,h.msg.right,h.msg.Z6,DK.2 ⟨fun v hv=>g1 v (hl.subset hv),g2.sublist hl,fun v hv=>g3 v (hl.subset hv)⟩⟩,h.head,hz⟩
end bE

namespace bE
open Go.IntKind renaming wrap->zW,i64->zI,u8->zU
open Go Go.Ref
def iI(ae:Int)(m:ByteArray):ByteArray:=if ae=1 then m else(qi m).1
def te(s:zf):List bg->ByteArray
 | []=>bs []
 |v::r=>(AO s.1 (aX s v.1) v.2.1).1++te s r
def jm(m:bL):List Int:=m.2.1.map fun v=>v.1
def ji(s:zf)(m:bL):ByteArray:=iI s.1 m.1++(fJ s.1 (dB (jm m)) (dC (jm m))).1++te s m.2.1
theorem afa(m:bL)(h:m.2.1.length<=1000000):sB m=some ((dB (jm m):Int),(dC (jm m):Int),()):=by
 unfold sB SL
 dsimp only
 have key:∀(l:List bg) (i:Int) (p:List Int),bm (fun i (x:bg) (b:vg) K=>(x5 b x.1).bind fun r1=>K r1) (fun b=>some (((0:Int),(0:Int),()),b)) l i ((dB p:Int),(dC p:Int),())=some (((0:Int),(0:Int),()),((dB (p++l.map fun v=>v.1):Int),(dC (p++l.map fun v=>v.1):Int),())):=by
  intro l
  induction l with
  |nil=>intro i p;rw[List.map_nil,List.append_nil];rfl
  |cons x r ih=>
   intro i p
   rw[bm,ML _ _ (uD p) (uE p),zc]
   have e1:dB p|||iw x.1=dB (p++ [x.1]):=by unfold dB;rw[List.foldl_append];rfl
   have e2:dC p|||ix x.1=dC (p++ [x.1]):=by unfold dC;rw[List.foldl_append];rfl
   rw[e1,e2]
   dsimp only
   rw[ih (i+1) (p++ [x.1]),List.map_cons,List.append_assoc];rfl
 have:=ct ni m.2.1 (by rw[zh];omega) (fun i (x:bg) (b:vg) K=>(x5 b x.1).bind fun r1=>K r1) (fun b=>some (((0:Int),(0:Int),()),b)) (fun k i b=>OT k m.2.1 (m.2.1.length:Int) i ((0:Int),(0:Int),()) b) (fun k i b=>rfl) ((0:Int),(0:Int),())
 rw[this]
 have k2:=key m.2.1 0 []
 rw[show dB []=0 from rfl,show dC []=0 from rfl] at k2
 rw[show((0:Nat):Int)=0 from rfl] at k2
 rw[k2];rfl
theorem afR(ae:Int)(m:ByteArray):(iI ae m).size<=m.size+500:=by
 unfold iI
 split
 ·omega
 ·have:=zgz m;omega
theorem abH(ae:Int)(h l:Nat):(fJ ae h l).1.size<=32:=by
 have hz:gO ae<=16:=by unfold gO;split<;>omega
 unfold fJ
 split
 ·dsimp only
  split
  ·rw[zhf];omega
  ·rw[z49,zhf,zhf];omega
 ·exact Nat.zero_le _
theorem z160(ae:Int)(s:Spec)(t:ByteArray):(AO ae s t).1.size<=2*t.size+1000:=by
 unfold AO
 split
 ·exact Nat.zero_le _
 ·split
  ·exact Nat.zero_le _
  ·dsimp only
   rw[z49]
   have:=KY ae s.2.2.1 t.size
   have:=Kd (cZ ae s.2.1) t
   omega
structure po(m:bL):Prop where
 tZ:m.1.size<=1000
 len:m.2.1.length<=1000
 rN:∀v∈m.2.1,v.2.1.size<=1000
theorem po.ok{m:bL}(h:po m):eJ m:=⟨by have:=h.tZ;omega,by have:=h.len;omega,fun v hv=>by have:=h.rN v hv;omega⟩
theorem ab6{s:zf}{m:bL}(hm:eJ m)(h:kq s m):po m:=by
 have ho:=(AG s).1 h.ig
 obtain⟨f1,f2,f3⟩:=DK.1 h.jk
 refine⟨by have:=(q9.1 h.right).1;omega,?_,fun v hv=> ?_⟩
 ·have:=Cx (lo:=0) f2 (fun v hv=>by
   have:=RF (Rn ho (f1 v hv).1)
   have e:=(RB (f1 v hv).1).2
   rw[e] at this
   exact⟨by omega,by omega⟩)
  omega
 ·obtain⟨v1,v2,v3,_,_⟩:=(Ox _ _ (hm.rN v hv)).1 (f1 v hv).2
  have:=Uz v1
  omega
theorem CB{x o:ByteArray}(h:o.size+x.size<=140737488355328):jE x o=some (o++x):=by
 unfold jE T4 QI
 rw[zT h,zC,zc]
theorem LD(s:zf)(hs:s.2.2.1.length<=maxLen)(f:bY):∀(l:List bg) (i:Int) (o:ByteArray),(∀v∈l,v.2.1.size<=1000)->o.size+3000*l.length<=100000000->
 bm (fun i (x:bg) (o:ByteArray) K=>(fF s x.1).bind fun r7=>(A5 s.1 r7.1 x.2.1).bind fun r8=>(jE r8.1 o).bind fun r9=>K r9) (fun o=>some (f,o)) l i o=some (f,o++te s l)
 | [],i,o,_,_=>by rw[te,MP];rfl
 |x::r,i,o,h,ho=>by
  have hx:=h x List.mem_cons_self
  have hc:=z160 s.1 (aX s x.1) x.2.1
  rw[List.length_cons] at ho
  rw[bm,AJ s _ hs,zc,abJ _ _ _ (by omega),zc]
  dsimp only
  rw[CB (by omega),zc]
  rw[LD s hs f r (i+1) _ (fun v hv=>h v (List.mem_cons_of_mem _ hv)) (by rw[z49];omega),te,ByteArray.append_assoc]
theorem ajf(ae:Int)(m:ByteArray)(hm:fE m=true)(hs:ae=1\/ae=2):∃k,sW ae m=some (iI ae m,k):=by
 have h4:=(q9.1 hm).1
 unfold sW T5 iI
 rw[zai m (by rw[zh];omega),zc,hm,Bool.not_true,zD]
 rcases hs with rfl|rfl
 ·exact⟨true,rfl⟩
 ·rw[zF (by decide),zD,zT rfl,zC,zgy m (by rw[zh];omega),zc,if_neg (by decide)]
  exact⟨_,rfl⟩
def qb(s:zf)(m:bL):ByteArray×bY:=if(gl s m).1=0 then(ji s m,kg) else(bs [],gl s m)
theorem JZ(s:zf)(m:bL)(hs:s.2.2.1.length<=maxLen)(h:eJ m):nQ s m=some (qb s m):=by
 unfold nQ T3 qb
 rw[znu s m hs h,zc]
 by_cases h0:(gl s m).1=0
 case neg=>rw[zF h0,if_neg h0];rfl
 have hm:=Ou.1 h0
 have E8:=ab6 h hm
 have ho:=(AG s).1 hm.ig
 obtain⟨k,hk⟩:=ajf s.1 m.1 hm.right ho.1
 have ht:=afR s.1 m.1
 have hb:=abH s.1 (dB (jm m)) (dC (jm m))
 have:=E8.tZ
 have:=E8.len
 rw[zT h0,Bool.not_true,zD,if_pos h0,hk,zc,afa m (by omega)]
 have w1:jE (iI s.1 m.1) (bs [])=some (iI s.1 m.1):=by
  rw[CB (by show 0+_<=_;omega),Dz]
 have w2:jE (fJ s.1 (dB (jm m)) (dC (jm m))).1 (iI s.1 m.1)=some (iI s.1 m.1++(fJ s.1 (dB (jm m)) (dC (jm m))).1):=CB (by omega)
 dsimp only
 rw[w1,zc,zc,ah3 _ _ _ (uD _) (uE _),zc,w2,zc]
 have hl:=ct ni m.2.1 (by rw[zh];omega) (fun i (x:bg) (o:ByteArray) K=>(fF s x.1).bind fun r7=>(A5 s.1 r7.1 x.2.1).bind fun r8=>(jE r8.1 o).bind fun r9=>K r9) (fun o=>some (kg,o)) (fun k i o=>O8 k m.2.1 (m.2.1.length:Int) i s kg o) (fun k i o=>rfl) (iI s.1 m.1++(fJ s.1 (dB (jm m)) (dC (jm m))).1)
 rw[hl,LD s hs _ m.2.1 0 _ E8.rN (by rw[z49];omega)]
 rfl
end bE

set_option maxRecDepth 10000
namespace bE
open Go.IntKind renaming wrap->zW,i64->zI,u8->zU
open Go Go.Ref
def il(ae:Int):Nat:=if ae=2 then 2 else 4
def iJ(ae:Int)(b:ByteArray):ByteArray:=if ae=2 then(kH (b.extract 0 2) 4).1 else b.extract 0 4
def oh(s:zf)(b:ByteArray):Sum Int mF:=
 if b.size<il s.1 then .inl 2 else if fE (iJ s.1 b)=true/\gb (iJ s.1 b)=s.2.1 then .inr (iJ s.1 b,il s.1) else .inl 7
def kv(s:zf)(b:ByteArray):List Int->Nat->List bg->List bg×bY
 | [],a,o=>(o,if a<b.size then(12,129,()) else kg)
 |no::r,a,o=>if bp s no=false then(o,(9,no,())) else if¬(qg s.1 (aX s no) b a).2.2=0 then(o,((qg s.1 (aX s no) b a).2.2,no,())) else kv s b r (qg s.1 (aX s no) b a).2.1.toNat (o++ [(no,(qg s.1 (aX s no) b a).1,())])
def wE(s:zf)(b t:ByteArray)(g:Nat×Nat×Int×Int):bL×bY:=
 if¬g.2.2.2=0 then((t,[],()),(g.2.2.2,1,())) else((t,(kv s b (elems g.1 g.2.1) g.2.2.1.toNat []).1,()),(kv s b (elems g.1 g.2.1) g.2.2.1.toNat []).2)
def Is(s:zf)(b:ByteArray):Sum Int mF->bL×bY
 | .inl e=>(dk,(e,0,()))
 | .inr q=>wE s b q.1 (cQ s.1 b q.2)
def mL(s:zf)(b:ByteArray):bL×bY:=if¬(gP s).1=0 then(dk,(1,-1,())) else Is s b (oh s b)
def Cm:Sum Int mF->ByteArray×Int×Int
 | .inl e=>(bs [],0,e)
 | .inr q=>(q.1,(q.2:Int),0)
theorem afS(ae:Int)(b:ByteArray):(iJ ae b).size<=2000:=by
 unfold iJ
 split
 ·generalize hg:kH (b.extract 0 2) 4=g
  obtain⟨t,e,i⟩:=g
  have:=za6 hg
  dsimp only;omega
 ·rw[ByteArray.size_extract];omega
theorem Le(s:zf)(t:ByteArray)(z:Nat)(ht:t.size<=2000):((jc t).bind fun r3=>(bif(!r3.2) then some (bs [],(0:Int),(7:Int)) else(bif(!(decide (r3.1=s.2.1))) then some (bs [],(0:Int),(7:Int)) else some (t,(z:Int),(0:Int)))))=some (Cm (if fE t=true/\gb t=s.2.1 then .inr (t,z) else .inl 7)):=by
 rw[QO t (by rw[zh];omega),zc]
 dsimp only
 cases hr:fE t with
 |false=>rfl
 |true=>
  rw[Bool.not_true,zD]
  by_cases hv:gb t=s.2.1
  ·rw[zT hv,if_pos ⟨rfl,hv⟩];rfl
  ·rw[zF hv,if_neg (fun h=>hv h.2)];rfl
theorem afT(s:zf)(b:ByteArray)(hb:b.size<=1099511627776):sR s b=some (Cm (oh s b)):=by
 have h4:Q2 4=some 2:=by have:=N5 4 (by decide) (by decide);exact this
 have e0:((2:Int)).toNat=2:=rfl
 have e4:((4:Int)).toNat=4:=rfl
 have kj:=afS s.1 b
 unfold sR TL oh
 by_cases h2:s.1=2
 ·have hz:il 2=2:=rfl
  have hT:iJ 2 b=(kH (b.extract 0 2) 4).1:=rfl
  rw[h2] at kj
  simp only[h2,decide_true,zC,h4,zc,e0]
  rw[hz]
  by_cases hc:b.size<2
  ·rw[zT (by omega),if_pos hc];rfl
  ·rw[zF (by omega),zD,zT (by decide),zC,zT (by omega),zC,if_neg hc,zgx _ _ (by rw[ByteArray.size_extract];omega),zc,<-hT]
   exact Le s (iJ 2 b) 2 kj
 ·have hz:il s.1=4:=by unfold il;rw[if_neg h2]
  have hT:iJ s.1 b=b.extract 0 4:=by unfold iJ;rw[if_neg h2]
  simp only[h2,decide_false,zD,e4]
  rw[hz]
  by_cases hc:b.size<4
  ·rw[zT (by omega),if_pos hc];rfl
  ·rw[zF (by omega),zD,zT (by omega),zC,if_neg hc,<-hT]
   exact Le s (iJ s.1 b) 4 kj
theorem abl{h l:Nat}{pre r:List Int}{no:Int}(he:elems h l=pre++no::r):ib h l no=r.headD 0:=by
 have hs:=zhe h l
 rw[he] at hs
 have hp:=List.pairwise_append.1 hs
 have hq:=List.pairwise_cons.1 hp.2.1
 unfold ib
 rw[he,List.filter_append,List.filter_eq_nil_iff.2 (fun x hx=>by have:=hp.2.2 x hx no List.mem_cons_self;simp;omega),List.nil_append,List.filter_cons_of_neg (by simp),List.filter_eq_self.2 (fun x hx=>by have:=hq.1 x hx;simp;omega)]
theorem ab7(h l:Nat):ib h l 0=(elems h l).headD 0:=by
 unfold ib
 rw[List.filter_eq_self.2 (fun x hx=>by have:=zhn ((Oi h l x).1 hx);simp;omega)]
theorem zpt(h l:Nat):(elems h l).length<=128:=by
 unfold elems
 exact Nat.le_trans (List.length_filter_le _ _) (by rw[aiT];exact Nat.le_refl _)
theorem aeA{ae:Int}{s:Spec}{b:ByteArray}{a:Nat}(hb:b.size<=1099511627776)(h:(qg ae s b a).2.2=0):(((qg ae s b a).2.1.toNat:Nat):Int)=(qg ae s b a).2.1:=by
 generalize hg:qg ae s b a=g at h⊢
 obtain⟨t,z,e⟩:=g
 dsimp only at h⊢
 subst h
 have:=(zu0 hb hg).2.2.1
 omega
def Iv(b:ByteArray)(e:Sum (ByteArray×Int×bL×bY×bL) (ByteArray×Int×bL×bY×bL)):Option (bL×bY):=Sum.elim (fun we=>some (we.2.2.1,we.2.2.2.1)) (fun we=>bif(decide (we.2.1<(we.1.size:Int))) then some (we.2.2.2.2,((12:Int),(129:Int),())) else some (we.2.2.2.2,kg)) e
theorem zo5(s:zf)(hs:s.2.2.1.length<=maxLen)(b t:ByteArray)(hb:b.size<=1099511627776)(h l:Nat)(hh:h<c8)(hl:l<c8):∀(r pre:List Int) (k a:Nat) (o:List bg),elems h l=pre++r->o.length<=pre.length->r.length<k->
 (Ej k b (a:Int) (r.headD 0) s dk kg (t,o,()) ((h:Int),(l:Int),())).bind (Iv b)=some ((t,(kv s b r a o).1,()),(kv s b r a o).2)
 |r,pre,0,a,o,_,_,hk=>by omega
 | [],pre,k+1,a,o,he,ho,hk=>by
   unfold Ej O7 kv
   rw[show([]:List Int).headD 0=0 from rfl,zT (p:=(0:Int)=0) rfl,Bool.not_true,zD,zc]
   unfold Iv
   rw[Sum.elim_inr]
   dsimp only
   by_cases hc:a<b.size
   ·rw[zT (by omega),if_pos hc];rfl
   ·rw[zF (by omega),if_neg hc];rfl
 |no::r,pre,k+1,a,o,he,ho,hk=>by
  have cC:no∈elems h l:=by rw[he];exact List.mem_append_right _ List.mem_cons_self
  have nv:=zhn ((Oi h l no).1 cC)
  have hlen:=zpt h l
  rw[he,List.length_append,List.length_cons] at hlen
  rw[List.length_cons] at hk
  unfold Ej O7 kv
  rw[show(no::r).headD 0=no from rfl,zF (by omega:¬no=0),Bool.not_false,zC,AJ s _ hs,zc]
  dsimp only
  cases hf:bp s no with
  |false=>rfl
  |true=>
   rw[Bool.not_true,zD,if_neg (by decide),abI _ _ _ _ hb,zc]
   by_cases hz:(qg s.1 (aX s no) b a).2.2=0
   case neg=>rw[zF hz,if_pos hz];rfl
   rw[zT hz,Bool.not_true,zD,if_neg (fun h=>h hz),zT (by simp only[List.length_singleton];omega),zC,Mn h l hh hl no (by omega) (by omega),zc,abl he,<-aeA hb hz]
   exact zo5 s hs b t hb h l hh hl r (pre++ [no]) k _ _ (by rw[he,List.append_assoc];rfl) (by rw[List.length_append,List.length_append,List.length_singleton,List.length_singleton];omega) (by omega)
theorem ah2{ae:Int}{b:ByteArray}{a:Nat}(h:(cQ ae b a).2.2.2=0):(cQ ae b a).1<c8/\(cQ ae b a).2.1<c8/\(((cQ ae b a).2.2.1.toNat:Nat):Int)=(cQ ae b a).2.2.1:=by
 generalize hg:cQ ae b a=g at h⊢
 obtain⟨h',l,z,e⟩:=g
 dsimp only at h⊢
 subst h
 obtain⟨_,q1,q2,q3,_⟩:=ah4 hg
 exact⟨by show h'<18446744073709551616;omega,q2,by omega⟩
theorem acB(s:zf)(b:ByteArray)(hs:s.2.2.1.length<=maxLen)(hb:b.size<=1099511627776):qz s b=some (mL s b):=by
 unfold qz TK mL
 rw[Ok s hs,zc]
 by_cases h0:(gP s).1=0
 case neg=>rw[zF h0,if_pos h0];rfl
 rw[zT h0,Bool.not_true,zD,if_neg (fun h=>h h0),afT s b hb,zc]
 cases ht:oh s b with
 |inl e=>
  have he:e≠0:=by
   unfold oh at ht
   split at ht
   ·cases ht;decide
   ·split at ht
    ·cases ht
    ·cases ht;decide
  exact NF he
 |inr q=>
  obtain⟨t,z⟩:=q
  refine(NG (p:=(0:Int)=0) rfl).trans ?_
  dsimp only[Cm,Is,wE]
  rw[ah1 _ _ _ hb,zc]
  by_cases he:(cQ s.1 b z).2.2.2=0
  case neg=>rw[if_pos he];exact NF he
  rw[if_neg (fun h=>h he)]
  refine(NG he).trans ?_
  obtain⟨q1,q2,q3⟩:=ah2 he
  dsimp only[bmR]
  rw[Mn _ _ q1 q2 0 (by decide) (by decide),zc,ab7,<-q3]
  exact zo5 s hs b t hb _ _ q1 q2 (elems (cQ s.1 b z).1 (cQ s.1 b z).2.1) [] ai _ [] rfl (Nat.le_refl _) (by have:=zpt (cQ s.1 b z).1 (cQ s.1 b z).2.1;rw[zr];omega)
end bE

set_option maxRecDepth 10000
namespace bE
open Go.IntKind renaming wrap->zW,i64->zI,u8->zU
open Go Go.Ref
theorem alh{s:zf}(h:iu s){no:Int}(hh:bp s no=true):2<=no/\no<=128:=by
 have:=RF (Rn h hh)
 rw[(RB hh).2] at this
 exact this
theorem afQ{s:zf}(hs:s.1=1\/s.1=2){m y:ByteArray}(hm:fE m=true):iJ s.1 (iI s.1 m++y)=m/\(iI s.1 m).size=il s.1:=by
 obtain⟨h4,hd⟩:=q9.1 hm
 have e0:∀(p:ByteArray) (k:Nat),p.size=k->(p++y).extract 0 k=p:=fun p k hk=>by
  have:=ak2 (bs []) p y
  rw[Dz,show(bs []).size=0 from rfl,Nat.zero_add,hk] at this
  exact this
 unfold iJ iI il
 rcases hs with hs|hs
 ·have n2:¬s.1=2:=by omega
  rw[if_neg n2,if_pos hs,if_neg n2]
  exact⟨e0 m 4 h4,h4⟩
 ·have n1:¬s.1=1:=by omega
  have hz:(qi m).1.size=2:=by rw[za8 (by omega) hd,h4]
  rw[if_pos hs,if_neg n1,if_pos hs,e0 _ 2 hz]
  have:=ahX (s:=m) (by omega) hd
  rw[h4] at this
  rw[show(4:Int)=((4:Nat):Int) from rfl,this]
  exact⟨rfl,hz⟩
abbrev aY:=zf×Map×List Int×List bg×Unit
abbrev Az:bg:=(0,bs [],())
def jR(s:zf)(prev:List Int)(no:Int):Int:=bif !bp s no then 9 else bif decide (no=39) then 1 else bif decide (no∈prev) then 10 else 0
def fN(s:zf):List Int->List Int->Int->Option (Int×Int)
 |_,[],_=>none
 |prev,no::r,i=>bif decide (jR s prev no=0) then fN s (prev++ [no]) r (i+1) else some (jR s prev no,i)
def gX(a:Spec)(prev:List Int)(c:bg):Int:=bif decide (c.1<0) then 1 else bif decide (16<c.1) then 1 else bif decide (c.1∈prev) then 10 else bJ a c.2.1
def eN(a:Spec):List Int->List bg->Int->Option (Int×Int)
 |_,[],_=>none
 |prev,c::r,i=>bif decide (gX a prev c=0) then eN a (prev++ [c.1]) r (i+1) else some (gX a prev c,i)
def fA(s:aY):Int×Int×Int:=
 bif !decide ((gP s.1).1=0) then(1,1,0) else bif !bp s.1 39 then(9,1,1) else match fN s.1 [] s.2.2.1 0 with
  |some e=>(e.1,2,e.2)
  |none=>match eN (aX s.1 39) [] s.2.2.2.1 0 with
   |some e=>(e.1,3,e.2)
   |none=>bif decide ((0:Int)∈s.2.2.2.1.map fun c=>c.1) then(0,0,0) else(15,3,(s.2.2.2.1.length:Int))
structure cU(s:aY):Prop where
 ig:s.1.2.2.1.length<=maxLen
 nZ:s.2.2.1.length<=1000000
 fL:s.2.2.2.1.length<=1000000
 rN:∀c∈s.2.2.2.1,c.2.1.size<=1099511627776
theorem LQ(no:Int):∀(l:List Int) (i:Int),0<=i->∃r,bm (fun i (x:Int) (s:Unit) K=>bif decide (no=x) then some (Sum.inl i) else K s) (fun _=>some (Sum.inr ())) l i ()=some r/\(no∈l->∃j,r= .inl j/\0<=j)/\(no∉l->r= .inr ())
 | [],i,_=>⟨_,rfl,fun h=>(by cases h),fun _=>rfl⟩
 |x::l,i,h=>by
  rw[bm]
  by_cases e:no=x
  ·rw[zT e,zC]
   exact⟨_,rfl,fun _=>⟨i,rfl,h⟩,fun hn=>absurd (by rw[e];exact List.mem_cons_self) hn⟩
  ·rw[zF e,zD]
   obtain⟨r,h1,h2,h3⟩:=LQ no l (i+1) (by omega)
   exact⟨r,h1,fun hm=>h2 ((List.mem_cons.1 hm).resolve_left e),fun hn=>h3 fun hm=>hn (List.mem_cons_of_mem _ hm)⟩
theorem aan(l:List Int)(no:Int)(h:l.length<=maxLen):sO l no=some (decide (no∈l)):=by
 unfold sO Tx vp TE
 have:=ct (0:Int) l h (fun i (x:Int) (s:Unit) K=>bif decide (no=x) then some (Sum.inl i) else K s) (fun _=>some (Sum.inr ()))
  (fun k i s=>O6 k l no (l.length:Int) i) (fun k i s=>rfl) ()
 dsimp only
 obtain⟨r,h1,h2,h3⟩:=LQ no l 0 (Int.le_refl _)
 rw[this,h1,zc]
 by_cases hm:no∈l
 ·obtain⟨j,rfl,hj⟩:=h2 hm
  rw[zT hm]
  show some (decide (0<=j))=_
  rw[zT hj]
 ·rw[h3 hm,zF hm];rfl
theorem LR(c:bg):∀(l:List bg) (i:Int),0<=i->∃r,bm (fun i (x:bg) (s:bg) K=>((qx x s).bind fun r1=>(bif r1.1 then some (Sum.inl (i,r1.2)) else K r1.2))) (fun s=>some (Sum.inr s)) l i c=some r/\(c.1∈l.map (fun v=>v.1)->∃j,r= .inl (j,c)/\0<=j)/\(c.1∉l.map (fun v=>v.1)->r= .inr c)
 | [],i,_=>⟨_,rfl,fun h=>(by cases h),fun _=>rfl⟩
 |x::l,i,h=>by
  rw[bm]
  unfold qx Td
  rw[zc]
  dsimp only
  rw[List.map_cons]
  by_cases e:x.1=c.1
  ·rw[zT e,zC]
   exact⟨_,rfl,fun _=>⟨i,rfl,h⟩,fun hn=>absurd (by rw[e];exact List.mem_cons_self) hn⟩
  ·rw[zF e,zD]
   obtain⟨r,h1,h2,h3⟩:=LR c l (i+1) (by omega)
   exact⟨r,h1,fun hm=>h2 ((List.mem_cons.1 hm).resolve_left fun e2=>e e2.symm),fun hn=>h3 fun hm=>hn (List.mem_cons_of_mem _ hm)⟩
theorem aao(l:List bg)(c:bg)(h:l.length<=maxLen):sN l c=some (decide (c.1∈l.map fun v=>v.1),c):=by
 unfold sN Tw vn TA
 have:=ct Az l h (fun i (x:bg) (s:bg) K=>((qx x s).bind fun r1=>(bif r1.1 then some (Sum.inl (i,r1.2)) else K r1.2))) (fun s=>some (Sum.inr s))
  (fun k i s=>O4 k l (l.length:Int) i s) (fun k i s=>rfl) c
 dsimp only
 obtain⟨r,h1,h2,h3⟩:=LR c l 0 (Int.le_refl _)
 rw[this,h1,zc]
 by_cases hm:c.1∈l.map fun v=>v.1
 ·obtain⟨j,rfl,hj⟩:=h2 hm
  rw[zT hm]
  show some (decide (0<=j),c)=_
  rw[zT hj]
 ·rw[h3 hm,zF hm];rfl
theorem FN{α:Type}{l:List α}{j:Nat}(h:j<l.length)(d:α):l.getD j d=l[j]:=by rw[List.getD_eq_getElem?_getD,List.getElem?_eq_getElem h];rfl
theorem akY(s:aY)(h:cU s){j:Nat}(hj:j<s.2.2.1.length):sK s (j:Int)=some (jR s.1 (s.2.2.1.take j) s.2.2.1[j]):=by
 have he:=h.nZ
 unfold sK Te jR
 rw[zk hj,Int.toNat_natCast,FN hj,AJ s.1 _ h.ig,zc]
 cases bp s.1 s.2.2.1[j] with
 |false=>rfl
 |true=>
  dsimp only
  rw[Bool.not_true,zD,zD]
  cases decide (s.2.2.1[j]=39) with
  |true=>rfl
  |false=>
   rw[zD,zD,zT (by omega),zC,zT (by omega),zC,List.drop_zero,aan _ _ (by rw[List.length_take,zh];omega),zc]
   cases decide (s.2.2.1[j]∈s.2.2.1.take j)<;>rfl
theorem akV(s:aY)(h:cU s)(a:Spec){j:Nat}(hj:j<s.2.2.2.1.length):sJ s (j:Int) a=some (gX a ((s.2.2.2.1.take j).map fun c=>c.1) s.2.2.2.1[j]):=by
 have he:=h.fL
 have ht:=h.rN _ (List.getElem_mem hj)
 unfold sJ Tc gX
 rw[zk hj,Int.toNat_natCast,FN hj]
 cases decide (s.2.2.2.1[j].1<0) with
 |true=>rfl
 |false=>
  rw[zD,zD]
  cases decide (16<s.2.2.2.1[j].1) with
  |true=>rfl
  |false=>
   rw[zD,zD,zT (by omega),zC,zT (by omega),zC,List.drop_zero,aao _ _ (by rw[List.length_take,zh];omega),zc]
   dsimp only
   cases decide (s.2.2.2.1[j].1∈(s.2.2.2.1.take j).map fun c=>c.1) with
   |true=>rfl
   |false=>rw[zD,zD,xA _ _ ht];rfl
theorem Km(s:aY)(h:cU s)(sp:Spec):∀(n j k:Nat),j+n=s.2.2.1.length->n<k->Eg k (s.2.2.1.length:Int) (j:Int) s sp=some (match fN s.1 (s.2.2.1.take j) (s.2.2.1.drop j) j with
 |some e=> .inl (e.1,2,e.2,s,sp)
 |none=> .inr (s,sp))
 |n,j,0,_,hk=>by omega
 |0,j,k+1,hj,hk=>by
  unfold Eg OY
  rw[zF (by omega),zD,List.drop_eq_nil_of_le (by omega)];rfl
 |n+1,j,k+1,hj,hk=>by
  have ar:j<s.2.2.1.length:=by omega
  have he:=h.nZ
  unfold Eg OY
  rw[zT (by omega),zC,akY s h ar,zc,List.drop_eq_getElem_cons ar,fN]
  cases decide (jR s.1 (s.2.2.1.take j) s.2.2.1[j]=0) with
  |false=>rfl
  |true=>
   rw[Bool.not_true,zD,zC]
   dsimp only
   rw[zu (by omega),List.take_append_getElem ar]
   exact Km s h sp n (j+1) k (by omega) (by omega)
def lv(t:Bool):List bg->Bool
 | []=>t
 |c::r=>lv (t||decide (c.1=0)) r
theorem Ml(t:Bool):∀l:List bg,lv t l=(t||decide ((0:Int)∈l.map fun c=>c.1))
 | []=>by simp [lv]
 |c::r=>by
  rw[lv,Ml _ r,List.map_cons,Bool.or_assoc]
  congr 1
  rw[<-Bool.decide_or]
  exact decide_eq_decide.2 ⟨fun h=>h.elim (fun e=>by rw[<-e];exact List.mem_cons_self) (List.mem_cons_of_mem _),fun h=>(List.mem_cons.1 h).imp (fun e=>e.symm) id⟩
theorem zh7(s:aY)(h:cU s)(a:Spec):∀(n j k:Nat) (t:Bool),j+n=s.2.2.2.1.length->n<k->∃t',Eh k t s.2.2.2.1 (s.2.2.2.1.length:Int) (j:Int) s a=some (match eN a ((s.2.2.2.1.take j).map fun c=>c.1) (s.2.2.2.1.drop j) j with
 |some e=> .inl (e.1,3,e.2,t',s)
 |none=> .inr (lv t (s.2.2.2.1.drop j),s))
 |n,j,0,t,_,hk=>by omega
 |0,j,k+1,t,hj,hk=>by
  unfold Eh OZ
  rw[zF (by omega),zD,List.drop_eq_nil_of_le (by omega)]
  exact⟨t,rfl⟩
 |n+1,j,k+1,t,hj,hk=>by
  have ar:j<s.2.2.2.1.length:=by omega
  have he:=h.fL
  unfold Eh OZ
  rw[zT (by omega),zC,zk ar,akV s h a ar,zc,List.drop_eq_getElem_cons ar,eN,lv]
  cases decide (gX a ((s.2.2.2.1.take j).map fun c=>c.1) s.2.2.2.1[j]=0) with
  |false=>exact⟨t,rfl⟩
  |true=>
   rw[Bool.not_true,zD,zC]
   dsimp only
   rw[zu (by omega),Int.toNat_natCast,FN ar]
   have e:(s.2.2.2.1.take j).map (fun c=>c.1)++ [s.2.2.2.1[j].1]=(s.2.2.2.1.take (j+1)).map fun c=>c.1:=by rw[<-List.take_append_getElem ar,List.map_append];rfl
   rw[e]
   cases t with
   |true=>
    rw[zC,Bool.true_or]
    exact zh7 s h a n (j+1) k true (by omega) (by omega)
   |false=>
    rw[zD,Bool.false_or]
    exact zh7 s h a n (j+1) k _ (by omega) (by omega)
theorem znz(s:aY)(h:cU s):sH s=some (fA s):=by
 have he:=h.nZ
 have hc:=h.fL
 unfold sH S5 fA
 rw[Ok s.1 h.ig,zc]
 cases decide ((gP s.1).1=0) with
 |false=>rfl
 |true=>
  rw[Bool.not_true,zD,zD,AJ s.1 39 h.ig,zc]
  cases bp s.1 39 with
  |false=>rfl
  |true=>
   dsimp only
   rw[Bool.not_true,zD,zD]
   have e1:=Km s h (aX s.1 39) s.2.2.1.length 0 ai (by omega) (by rw[zr];omega)
   rw[List.take_zero,List.drop_zero,show((0:Nat):Int)=0 from rfl] at e1
   rw[e1,zc]
   cases fN s.1 [] s.2.2.1 0 with
   |some e=>rfl
   |none=>
    dsimp only
    rw[Sum.elim_inr]
    unfold S6
    dsimp only
    obtain⟨t',e2⟩:=zh7 s h (aX s.1 39) s.2.2.2.1.length 0 ai false (by omega) (by rw[zr];omega)
    rw[List.take_zero,List.drop_zero,show((0:Nat):Int)=0 from rfl,List.map_nil] at e2
    rw[e2,zc]
    cases eN (aX s.1 39) [] s.2.2.2.1 0 with
    |some e=>rfl
    |none=>
     dsimp only
     rw[Sum.elim_inr]
     unfold S7
     rw[Ml,Bool.false_or]
     dsimp only
     cases decide ((0:Int)∈s.2.2.2.1.map fun c=>c.1)<;>rfl
theorem znh(l:List bg)(hl:l.length<=9223372036854775807)(m:Nat)(hm:m<=l.length)(e:Int):∀(n j k:Nat),j+n=m->n<k->∃r,Ea k l (m:Int) e (j:Int)=some r/\(e∈((l.take m).drop j).map (fun v=>v.1)->∃i,r= .inl i/\0<=i)/\(e∉((l.take m).drop j).map (fun v=>v.1)->r= .inr ())
 |n,j,0,_,hk=>by omega
 |0,j,k+1,hj,hk=>by
  unfold Ea ON
  rw[zF (by omega),zD,List.drop_eq_nil_of_le (by rw[List.length_take];omega)]
  exact⟨_,rfl,fun h=>(by cases h),fun _=>rfl⟩
 |n+1,j,k+1,hj,hk=>by
  have ar:j<l.length:=by omega
  have fR:j<(l.take m).length:=by rw[List.length_take];omega
  unfold Ea ON
  rw[zT (by omega),zC,zk ar,Int.toNat_natCast,FN ar,List.drop_eq_getElem_cons fR,List.map_cons,List.getElem_take]
  by_cases he:l[j].1=e
  ·rw[zT he,zC]
   exact⟨_,rfl,fun _=>⟨(j:Int),rfl,by omega⟩,fun hn=>absurd (by rw[he];exact List.mem_cons_self) hn⟩
  ·rw[zF he,zD]
   dsimp only
   rw[zu (by omega)]
   obtain⟨r,h1,h2,h3⟩:=znh l hl m hm e n (j+1) k (by omega) (by omega)
   exact⟨r,h1,fun hm=>h2 ((List.mem_cons.1 hm).resolve_left fun e2=>he e2.symm),fun hn=>h3 fun hm=>hn (List.mem_cons_of_mem _ hm)⟩
theorem Kv(l:List bg)(hl:l.length<=maxLen)(m:Nat)(hm:m<=l.length)(e:Int):∃r,qs l (m:Int) e=some r/\decide (0<=r)=decide (e∈(l.take m).map fun v=>v.1):=by
 unfold qs Sl
 rw[zh] at hl
 obtain⟨r,h1,h2,h3⟩:=znh l (by omega) m hm e m 0 ai (by omega) (by rw[zr];omega)
 rw[show((0:Nat):Int)=0 from rfl] at h1
 dsimp only
 rw[h1,zc]
 rw[List.drop_zero] at h2 h3
 by_cases dg:e∈(l.take m).map fun v=>v.1
 ·obtain⟨i,rfl,hi⟩:=h2 dg
  exact⟨i,rfl,by rw[zT hi,zT dg]⟩
 ·rw[h3 dg]
  exact⟨-1,rfl,by rw[zF dg];rfl⟩
theorem zne(s:aY)(h:cU s)(t5:Int):∀(n j k:Nat),j+n=s.2.2.1.length->n<k->D8 k t5 (j:Int) s=some (match fN s.1 (s.2.2.1.take j) (s.2.2.1.drop j) j with
 |some e=> .inl (e.1,2,e.2,t5,s)
 |none=> .inr (t5,s))
 |n,j,0,_,hk=>by omega
 |0,j,k+1,hj,hk=>by
  unfold D8 OK
  rw[zF (by omega),zD,List.drop_eq_nil_of_le (by omega)];rfl
 |n+1,j,k+1,hj,hk=>by
  have ar:j<s.2.2.1.length:=by omega
  have he:=h.nZ
  have ih:=zne s h t5 n (j+1) k (by omega) (by omega)
  have hw:∀{R:Type} (z:Option R),zd (j:Int) s.2.2.1.length z=z:=fun z=>zk ar
  unfold D8 OK
  simp only[hw]
  rw[zT (by omega),zC,Int.toNat_natCast,FN ar,QZ s.1 _ h.ig,zc,List.drop_eq_getElem_cons ar,fN]
  unfold jR
  rcases Rh s.1 s.2.2.1[j] with⟨h1,h2,_⟩|⟨h1,_,h2,_⟩
  ·rw[h1,h2];rfl
  ·rw[h2,zF (by omega),zD,Bool.not_true,zD]
   cases decide (s.2.2.1[j]=39) with
   |true=>rfl
   |false=>
    rw[zD,zD,zT (by omega),zC,zT (by omega),zC,List.drop_zero,ajm _ _ (by rw[List.length_take,zh];omega),zc]
    cases decide (s.2.2.1[j]∈s.2.2.1.take j) with
    |true=>rfl
    |false=>
     rw[zD,zD,zT rfl,zC]
     rw[zu (by omega),List.take_append_getElem ar]
     exact ih
theorem znd(s:aY)(h:cU s)(t5:Int)(h5:0<=t5/\t5<s.1.2.2.1.length)(hs5:List.getD s.1.2.2.1 t5.toNat cY=aX s.1 39):∀(n j k:Nat),j+n=s.2.2.2.1.length->n<k->D9 k t5 (j:Int) s=some (match eN (aX s.1 39) ((s.2.2.2.1.take j).map fun c=>c.1) (s.2.2.2.1.drop j) j with
 |some e=> .inl (e.1,3,e.2,s)
 |none=> .inr s)
 |n,j,0,_,hk=>by omega
 |0,j,k+1,hj,hk=>by
  unfold D9 OL
  rw[zF (by omega),zD,List.drop_eq_nil_of_le (by omega)];rfl
 |n+1,j,k+1,hj,hk=>by
  have ar:j<s.2.2.2.1.length:=by omega
  have he:=h.fL
  have ih:=znd s h t5 h5 hs5 n (j+1) k (by omega) (by omega)
  have hw:∀{R:Type} (z:Option R),zd (j:Int) s.2.2.2.1.length z=z:=fun z=>zk ar
  have hw5:∀{R:Type} (z:Option R),zd t5 s.1.2.2.1.length z=z:=fun z=>zm h5.1 h5.2
  have ht:=h.rN _ (List.getElem_mem ar)
  obtain⟨r,f1,f2⟩:=Kv s.2.2.2.1 (by rw[zh];omega) j (by omega) s.2.2.2.1[j].1
  unfold D9 OL
  simp only[hw,hw5]
  rw[zT (by omega),zC,Int.toNat_natCast,FN ar,f1,zc,f2,hs5,Fh _ _ ht,zc,List.drop_eq_getElem_cons ar,eN]
  unfold gX
  cases decide (s.2.2.2.1[j].1<0) with
  |true=>rfl
  |false=>
   rw[zD,zD]
   cases decide (16<s.2.2.2.1[j].1) with
   |true=>rfl
   |false=>
    rw[zD,zD]
    cases decide (s.2.2.2.1[j].1∈(s.2.2.2.1.take j).map fun c=>c.1) with
    |true=>rfl
    |false=>
     rw[zD,zD]
     cases decide (bJ (aX s.1 39) s.2.2.2.1[j].2.1=0) with
     |false=>rfl
     |true=>
      rw[Bool.not_true,zD,zC]
      have e:(s.2.2.2.1.take j).map (fun c=>c.1)++ [s.2.2.2.1[j].1]=(s.2.2.2.1.take (j+1)).map fun c=>c.1:=by rw[<-List.take_append_getElem ar,List.map_append];rfl
      rw[zu (by omega),e]
      exact ih
theorem zqf(s:aY)(h:cU s):sk s=some (fA s):=by
 have he:=h.nZ
 have hc:=h.fL
 unfold sk Se fA
 rw[zcs s.1 h.ig,zc]
 cases decide ((gP s.1).1=0) with
 |false=>rfl
 |true=>
  rw[Bool.not_true,zD,zD,QZ s.1 39 h.ig,zc]
  rcases Rh s.1 39 with⟨h1,h2,_⟩|⟨h1,Xp,h2,h3⟩
  ·rw[h1,h2];rfl
  ·rw[h2,zF (by omega),zD,Bool.not_true,zD]
   dsimp only
   have e1:=zne s h (eU s.1.2.2.1 39 0) s.2.2.1.length 0 ai (by omega) (by rw[zr];omega)
   rw[List.take_zero,List.drop_zero,show((0:Nat):Int)=0 from rfl] at e1
   rw[e1,zc]
   cases fN s.1 [] s.2.2.1 0 with
   |some e=>rfl
   |none=>
    dsimp only
    rw[Sum.elim_inr]
    unfold Sf
    dsimp only
    have e2:=znd s h (eU s.1.2.2.1 39 0) ⟨h1,Xp⟩ h3 s.2.2.2.1.length 0 ai (by omega) (by rw[zr];omega)
    rw[List.take_zero,List.drop_zero,show((0:Nat):Int)=0 from rfl,List.map_nil] at e2
    rw[e2,zc]
    cases eN (aX s.1 39) [] s.2.2.2.1 0 with
    |some e=>rfl
    |none=>
     dsimp only
     rw[Sum.elim_inr]
     unfold Sg
     obtain⟨r,f1,f2⟩:=Kv s.2.2.2.1 (by rw[zh];omega) s.2.2.2.1.length (Nat.le_refl _) 0
     rw[List.take_length] at f2
     rw[f1,zc]
     by_cases hr:0<=r
     ·rw[zT hr] at f2
      rw[zF (by omega),<-f2];rfl
     ·rw[zF hr] at f2
      rw[zT (by omega),<-f2];rfl
abbrev xL:=List aY×Int×Unit
abbrev alp:zf:=((0:Int),(0:Int),([]:List Spec),())
abbrev p8:aY:=(alp,Ju,([]:List Int),([]:List bg),())
abbrev JM:Ty:= .pair (.int .i64) (.pair .str .unit)
abbrev ug:Ty:= .pair als (.pair JN (.pair (.sl 0 (.int .i64)) (.pair (.sl 0 JM) .unit)))
abbrev UC:Ty:= .pair (.arr 2 ug) (.pair (.int .i64) .unit)
theorem afP{c:xL}(h:c.1.length=2):∃p q,c=([p,q],c.2.1,()):=by
 obtain⟨l,n,u⟩:=c
 match l,h with
 | [p,q],_=>exact⟨p,q,rfl⟩
theorem F5:∃k,ai=k+1+1+1:=⟨ai-3,by rw[zr]⟩
def F6(s:aY):Bool:=decide ((200:Int)<(s.1.2.2.1.length:Int))||(decide ((300:Int)<(s.2.2.1.length:Int))||(decide ((300:Int)<(s.2.2.2.1.length:Int))||s.2.2.2.1.any fun c=>decide ((1200:Int)<(c.2.1.size:Int))))
theorem NL:∀(l:List bg) (i:Int),bm (fun i (x:bg) (s:Unit) K=>(bif(decide ((1200:Int)<((x.2.1).size:Int))) then some (Sum.inl true) else K s)) (fun _=>some (Sum.inr ())) l i ()=some (bif l.any (fun c=>decide ((1200:Int)<(c.2.1.size:Int))) then Sum.inl true else Sum.inr ())
 | [],i=>rfl
 |x::r,i=>by
  rw[bm,List.any_cons]
  cases decide ((1200:Int)<(x.2.1.size:Int)) with
  |true=>rfl
  |false=>exact NL r (i+1)
theorem zqg(s:aY)(h:s.2.2.2.1.length<=maxLen):mo s=some (F6 s):=by
 unfold mo Sj F6
 cases decide ((200:Int)<(s.1.2.2.1.length:Int)) with
 |true=>rfl
 |false=>
  rw[zD,Bool.false_or]
  cases decide ((300:Int)<(s.2.2.1.length:Int)) with
  |true=>rfl
  |false=>
   rw[zD,Bool.false_or]
   cases decide ((300:Int)<(s.2.2.2.1.length:Int)) with
   |true=>rfl
   |false=>
    rw[zD,Bool.false_or]
    have:=ct Az s.2.2.2.1 h (fun i (x:bg) (s:Unit) K=>(bif(decide ((1200:Int)<((x.2.1).size:Int))) then some (Sum.inl true) else K s)) (fun _=>some (Sum.inr ()))
     (fun k i u=>OM k i s) (fun k i u=>rfl) ()
    dsimp only
    rw[this,NL]
    cases s.2.2.2.1.any (fun c=>decide ((1200:Int)<(c.2.1.size:Int)))<;>rfl
theorem Kz{s:aY}(h:F6 s=false):cU s/\s.1.2.2.1.length<=200/\s.2.2.1.length<=300/\s.2.2.2.1.length<=300/\∀c∈s.2.2.2.1,c.2.1.size<=1200:=by
 unfold F6 at h
 simp only[Bool.or_eq_false_iff,decide_eq_false_iff_not] at h
 obtain⟨h1,h2,h3,h4⟩:=h
 have ht:∀c∈s.2.2.2.1,c.2.1.size<=1200:=fun c hc=>by
  by_cases e:(1200:Int)<(c.2.1.size:Int)
  ·rw[List.any_eq_true.2 ⟨c,hc,zT e⟩] at h4;cases h4
  ·omega
 exact⟨⟨by rw[zh];omega,by omega,by omega,fun c hc=>by have:=ht c hc;omega⟩,by omega,by omega,by omega,ht⟩
structure cL(p q:aY):Prop where
 sp:cU p
 sq:cU q
 pm:dE p.2.1
 qm:dE q.2.1
 Ce:p.1.2.2.1.length<=200
 Ch:q.1.2.2.1.length<=200
 pe:p.2.2.1.length<=300
 qe:q.2.2.1.length<=300
 pml:p.2.1.2.1.length<=300
 qml:q.2.1.2.1.length<=300
 ZQ:∀c∈p.2.2.2.1,c.2.1.size<=1200
 ZS:∀c∈q.2.2.2.1,c.2.1.size<=1200
theorem znm{m:Map}(h:AY m=false):m.2.1.length<=300:=by
 unfold AY at h
 simp only[Bool.or_eq_false_iff,decide_eq_false_iff_not] at h
 omega
theorem ab0{p q:aY}{n:Int}(h:Wf UC ([p,q],n,())):∃g,mr ([p,q],n,())=some g/\(g=false->cL p q):=by
 have hp:Wf ug p:=h.1.2 p (by simp)
 have hq:Wf ug q:=h.1.2 q (by simp)
 have w0:∀{R:Type} (x:Option R),zd 0 2 x=x:=fun x=>zm (by omega) (by omega)
 have w1:∀{R:Type} (x:Option R),zd 1 2 x=x:=fun x=>zm (by omega) (by omega)
 unfold mr Sq
 simp only[w0,w1]
 show∃g,((mo p).bind fun r1=>(bif r1 then some true else((mo q).bind fun r2=>(bif r2 then some true else((ly p.2.1).bind fun r3=>(bif r3 then some true else((ly q.2.1).bind fun r4=>some r4)))))))=some g/\_
 rw[zqg p hp.2.2.2.1.1,zc]
 cases h1:F6 p with
 |true=>exact⟨true,rfl,fun h=>by cases h⟩
 |false=>
  rw[zD,zqg q hq.2.2.2.1.1,zc]
  cases h2:F6 q with
  |true=>exact⟨true,rfl,fun h=>by cases h⟩
  |false=>
   rw[zD,Mj hp.2.1,zc]
   cases h3:AY p.2.1 with
   |true=>exact⟨true,rfl,fun h=>by cases h⟩
   |false=>
    rw[zD,Mj hq.2.1,zc]
    refine⟨_,rfl,fun h4=> ?_⟩
    obtain⟨a1,a2,a3,a4,a5⟩:=Kz h1
    obtain⟨b1,b2,b3,b4,b5⟩:=Kz h2
    exact⟨a1,b1,Ky h3,Ky h4,a2,b2,a3,b3,znm h3,znm h4,a5,b5⟩
def gE(p q:aY)(n:Int):Int×Int×Int:=
 bif decide (n<1) then(5,2,0) else bif decide (65535<n) then(5,2,0)
 else bif !decide ((fA p).1=0) then((fA p).1,0,1) else bif !decide ((dq p.2.1 p.1 q.1).1=0) then((dq p.2.1 p.1 q.1).1,0,2)
 else bif !decide ((fA q).1=0) then((fA q).1,1,1) else bif !decide ((dq q.2.1 q.1 p.1).1=0) then((dq q.2.1 q.1 p.1).1,1,2) else(0,0,0)
theorem qZ{R:Type}(x:Option R):zd 0 2 x=x:=zm (by omega) (by omega)
theorem q7{R:Type}(x:Option R):zd 1 2 x=x:=zm (by omega) (by omega)
theorem xt:zW zI ((1:Int)-(0:Int))=1:=by decide
theorem xu:zW zI ((1:Int)-(1:Int))=0:=by decide
theorem xr:zW zI ((0:Int)+(1:Int))=1:=by decide
theorem xv:zW zI ((1:Int)+(1:Int))=2:=by decide
theorem gp(p q:aY):List.getD [p,q] (0:Int).toNat p8=p:=rfl
theorem gq(p q:aY):List.getD [p,q] (1:Int).toNat p8=q:=rfl
theorem zdj(p q:aY)(n:Int)(h:cL p q):qy ([p,q],n,())=some (gE p q n):=by
 obtain⟨k,hk⟩:=F5
 unfold qy Th gE
 dsimp only
 cases decide (n<1) with
 |true=>rfl
 |false=>
  cases decide (65535<n) with
  |true=>rfl
  |false=>
   rw[zD,zD,zD,zD,hk]
   unfold Ei FE
   simp only[qZ,q7,xt,xu,xr,xv,gp,gq]
   rw[zT (by decide:(0:Int)<2),zC,znz p h.sp,zc]
   cases decide ((fA p).1=0) with
   |false=>rfl
   |true=>
    rw[Bool.not_true,zD,zD,z7k p.2.1 p.1 q.1 h.pm h.sp.ig h.sq.ig,zc]
    cases decide ((dq p.2.1 p.1 q.1).1=0) with
    |false=>rfl
    |true=>
     rw[Bool.not_true,zD,zD]
     unfold Ei FE
     simp only[qZ,q7,xt,xu,xr,xv,gp,gq]
     rw[zT (by decide:(1:Int)<2),zC,znz q h.sq,zc]
     cases decide ((fA q).1=0) with
     |false=>rfl
     |true=>
      rw[Bool.not_true,zD,zD,z7k q.2.1 q.1 p.1 h.qm h.sq.ig h.sp.ig,zc]
      cases decide ((dq q.2.1 q.1 p.1).1=0) with
      |false=>rfl
      |true=>
       rw[Bool.not_true,zD,zD]
       unfold Ei FE
       rw[zF (by decide:¬(2:Int)<2),zD]
       rfl
theorem abt(p q:aY)(n:Int)(h:cL p q):sn ([p,q],n,())=some (gE p q n):=by
 obtain⟨k,hk⟩:=F5
 unfold sn Sn gE
 dsimp only
 cases decide (n<1) with
 |true=>rfl
 |false=>
  cases decide (65535<n) with
  |true=>rfl
  |false=>
   rw[zD,zD,zD,zD,hk]
   unfold Eb FC
   simp only[qZ,q7,xt,xu,xr,xv,gp,gq]
   rw[zT (by decide:(0:Int)<2),zC,zqf p h.sp,zc]
   cases decide ((fA p).1=0) with
   |false=>rfl
   |true=>
    rw[Bool.not_true,zD,zD,zqe p.2.1 p.1 q.1 h.pm h.sp.ig h.sq.ig,zc]
    cases decide ((dq p.2.1 p.1 q.1).1=0) with
    |false=>rfl
    |true=>
     rw[Bool.not_true,zD,zD]
     unfold Eb FC
     simp only[qZ,q7,xt,xu,xr,xv,gp,gq]
     rw[zT (by decide:(1:Int)<2),zC,zqf q h.sq,zc]
     cases decide ((fA q).1=0) with
     |false=>rfl
     |true=>
      rw[Bool.not_true,zD,zD,zqe q.2.1 q.1 p.1 h.qm h.sq.ig h.sp.ig,zc]
      cases decide ((dq q.2.1 q.1 p.1).1=0) with
      |false=>rfl
      |true=>
       rw[Bool.not_true,zD,zD]
       unfold Eb FC
       rw[zF (by decide:¬(2:Int)<2),zD]
       rfl
theorem JY(s:aY)(h:cU s)(h2:s.1.2.2.1.length<=200):sm s=some s:=by
 have he:=h.nZ
 have hc:=h.fL
 unfold sm Sh
 rw[acx s.1 (by omega),zc,zT (by simp;omega),zC,zT (by simp;omega),zC]
 rfl
theorem p6(p q r:aY):List.set [p,q] (0:Int).toNat r=[r,q]:=rfl
theorem p7(p q r:aY):List.set [p,q] (1:Int).toNat r=[p,r]:=rfl
theorem EX(p q:aY):List.getD [p,q] (0:Int).toNat ((((0:Int),(0:Int),([]:List Spec),()),(([]:List bB),([]:List aV),()),([]:List Int),([]:List bg),()):aY)=p:=rfl
theorem EY(p q:aY):List.getD [p,q] (1:Int).toNat ((((0:Int),(0:Int),([]:List Spec),()),(([]:List bB),([]:List aV),()),([]:List Int),([]:List bg),()):aY)=q:=rfl
theorem acz(p q:aY)(n:Int)(h:cL p q):sr ([p,q],n,())=some ([p,q],n,()):=by
 obtain⟨k,hk⟩:=F5
 unfold sr Sp
 dsimp only
 rw[hk]
 unfold Ec FD
 simp only[qZ,q7,xt,xu,xr,xv,gp,gq,EX,EY,p6,p7]
 rw[zT (by decide:(0:Int)<2),zC,JX _ h.pm,zc,JY p h.sp h.Ce,zc]
 unfold Ec FD
 simp only[qZ,q7,xt,xu,xr,xv,gp,gq,EX,EY,p6,p7]
 rw[zT (by decide:(1:Int)<2),zC,JX _ h.qm,zc,JY q h.sq h.Ch,zc]
 unfold Ec FD
 rw[zF (by decide:¬(2:Int)<2),zD]
 rfl
theorem w0{R:Type}(x:Option R):zd 0 2 x=x:=zm (by omega) (by omega)
theorem w1{R:Type}(x:Option R):zd 1 2 x=x:=zm (by omega) (by omega)
theorem ga(a b:zf):List.getD ([a,b]:List zf) (0:Int).toNat ((0:Int),(0:Int),([]:List Spec),())=a:=rfl
def dh(m:ByteArray):ByteArray:=strOf [ze m 0,ze m 1,ze m 2+1,ze m 3]
theorem ak6{m:ByteArray}(h:m.size=4):bl m=[ze m 0,ze m 1,ze m 2,ze m 3]:=by
 have hl:(bl m).length=4:=by rw[zg];exact h
 have e:=fun i=>me m i
 match hb:bl m,hl with
 | [a,b,c,d],_=>rw[e 0,e 1,e 2,e 3,hb];rfl
theorem Ro{m:ByteArray}(h:er m=true):fE m=true/\(ze m 2=48\/ze m 2=50):=by
 unfold er at h
 rw[Bool.and_eq_true,Bool.or_eq_true,decide_eq_true_eq,decide_eq_true_eq] at h
 exact h
theorem Ng{m:ByteArray}(h:er m=true):bl (dh m)=[ze m 0,ze m 1,ze m 2+1,ze m 3]/\bF [ze m 0,ze m 1,ze m 2+1,ze m 3]=true:=by
 obtain⟨hr,h2⟩:=Ro h
 have d0:=xP hr 0 (by decide)
 have d1:=xP hr 1 (by decide)
 have d3:=xP hr 3 (by decide)
 have hd:bF [ze m 0,ze m 1,ze m 2+1,ze m 3]=true:=rf.2 ⟨uU.2 d0,rf.2 ⟨uU.2 d1,rf.2 ⟨uU.2 (by omega),rf.2 ⟨uU.2 d3,rfl⟩⟩⟩⟩
 exact⟨uB (Kj hd),hd⟩
theorem alo{m:ByteArray}(h:er m=true):fE (dh m)=true/\gb (dh m)=gb m/\er (dh m)=false:=by
 obtain⟨hr,h2⟩:=Ro h
 obtain⟨hb,hd⟩:=Ng h
 have hs:(dh m).size=4:=by rw[<-zg,hb];rfl
 have eR:fE (dh m)=true:=q9.2 ⟨hs,by rw[hb];exact hd⟩
 have e0:ze (dh m) 0=ze m 0:=by rw[me (dh m),hb];rfl
 have e2:ze (dh m) 2=ze m 2+1:=by rw[me (dh m),hb];rfl
 refine⟨eR,?_,?_⟩
 ·unfold gb
  rw[hr,eR,e0]
 ·unfold er
  rw[eR,e2,zF (by omega),zF (by omega)];rfl
theorem aaU(m:ByteArray)(h:m.size<=maxLen):sE m=some (if er m=true then(dh m,true) else(bs [],false)):=by
 unfold sE SQ
 rw[zcr m h,zc]
 cases hr:er m with
 |false=>rfl
 |true=>
  obtain⟨eH,h2⟩:=Ro hr
  have h4:=(q9.1 eH).1
  have hb:=ak6 h4
  have z1:(m.extract 0 2).size=2:=by rw[ByteArray.size_extract];omega
  have z3:(m.extract 3 m.size).size=1:=by rw[ByteArray.size_extract];omega
  have zs:∀x:Int,(strOf [x]).size=1:=fun x=>by rw[z28];rfl
  have hw:zW zU (ze m 2+1)=ze m 2+1:=by
   rcases h2 with e|e<;>rw[e]<;>decide
  rw[Bool.not_true,zD,show((2:Int)).toNat=2 from rfl,show((3:Int)).toNat=3 from rfl,zT (by omega),zC,show(2:Int)=((2:Nat):Int) from rfl,zk (by omega),hw,zT (by rw[z1,zs];decide),zC,zT (by omega),zC,zT (by rw[z49,z1,zs,z3];decide),zC,if_pos rfl]
  congr 2
  apply EH
  rw[xB,xB,uT,uT,h4,hb,(Ng hr).1]
  have hx:zn (ze m 2+1):=by unfold zn;omega
  rw[uB (xs:=[ze m 2+1]) (by simpa using hx)]
  rfl
def eI(l:List bg)(no:Int):Option bg:=l.find? fun v=>decide (v.1=no)
theorem LL(no:Int):∀(l:List bg) (i:Int),bm (fun i (x:bg) (s:Unit) K=>bif decide (x.1=no) then some (Sum.inl (x.2.1,true)) else K s) (fun _=>some (Sum.inr ())) l i ()=some (match eI l no with
 |some v=> .inl (v.2.1,true)
 |none=>(.inr ():Sum js Unit))
 | [],i=>rfl
 |x::r,i=>by
  rw[bm]
  unfold eI
  rw[List.find?_cons]
  cases hx:decide (x.1=no) with
  |true=>rfl
  |false=>exact LL no r (i+1)
theorem ajo(m:bL)(no:Int)(h:m.2.1.length<=1000000):nK m no=some (match eI m.2.1 no with
 |some v=>(v.2.1,true)
 |none=>(bs [],false)):=by
 unfold nK SJ
 dsimp only
 have:=ct ni m.2.1 (by rw[zh];omega) (fun i (x:bg) (s:Unit) K=>bif decide (x.1=no) then some (Sum.inl (x.2.1,true)) else K s) (fun _=>some (Sum.inr ())) (fun k i s=>OS k no m.2.1 (m.2.1.length:Int) i) (fun k i s=>rfl) ()
 rw[this,LL]
 cases eI m.2.1 no<;>rfl
def gY(s:aY)(e:Int):ByteArray:=match eI s.2.2.2.1 e with
 |some c=>c.2.1
 |none=>match eI s.2.2.2.1 0 with
  |some c=>c.2.1
  |none=>bs []
theorem Kc(s:aY)(e:Int)(q:List Int)(n i0:Int):∀(l:List bg) (i:Int),bm (fun i (x:bg) (u:Unit) K=>bif decide (x.1=e) then some (Sum.inl (x.2.1,q,n,i0,s)) else K u) (fun _=>some (Sum.inr (q,n,i0,s))) l i ()=some (match eI l e with
 |some v=> .inl (v.2.1,q,n,i0,s)
 |none=>(.inr (q,n,i0,s):Sum (ByteArray×List Int×Int×Int×aY) (List Int×Int×Int×aY)))
 | [],i=>rfl
 |x::r,i=>by
  rw[bm]
  unfold eI
  rw[List.find?_cons]
  cases hx:decide (x.1=e) with
  |true=>rfl
  |false=>exact Kc s e q n i0 r (i+1)
theorem akW(s:aY)(hs:s.2.2.2.1.length<=1000000)(e:Int)(q:List Int)(n i0:Int):z85 ai e q n i0 s.2.2.2.1 (s.2.2.2.1.length:Int) 0 s=some (match eI s.2.2.2.1 e with
 |some v=> .inl (v.2.1,q,n,i0,s)
 |none=>(.inr (q,n,i0,s):Sum (ByteArray×List Int×Int×Int×aY) (List Int×Int×Int×aY))):=by
 rw[<-Kc s e q n i0 s.2.2.2.1 0]
 exact ct ni s.2.2.2.1 (by rw[zh];omega) (fun i (x:bg) (u:Unit) K=>bif decide (x.1=e) then some (Sum.inl (x.2.1,q,n,i0,s)) else K u) (fun _=>some (Sum.inr (q,n,i0,s))) (fun k i u=>z85 k e q n i0 s.2.2.2.1 (s.2.2.2.1.length:Int) i s) (fun k i u=>rfl) ()
theorem ajj(s:aY)(hs:s.2.2.2.1.length<=1000000)(e:Int):sI s e=some (gY s e):=by
 obtain⟨k,hk⟩:=F5
 have h1:=akW s hs
 unfold sI Ta gY
 dsimp only
 rw[show(List.length [e,(0:Int)]:Int)=2 from rfl]
 have step:∀(K i:Nat) (x:Int),i<2->List.getD [e,(0:Int)] i 0=x->AN (K+1) [e,0] 2 (i:Int) s=match eI s.2.2.2.1 x with
  |some v=>some (.inr v.2.1)
  |none=>AN K [e,0] 2 ((i+1:Nat):Int) s:=by
  intro K i x hi hx
  conv=>lhs;unfold AN O0
  rw[zT (by omega),zC,show(List.length [e,(0:Int)])=2 from rfl,zk hi,Int.toNat_natCast,hx]
  dsimp only
  rw[h1,zc]
  cases eI s.2.2.2.1 x with
  |some v=>rfl
  |none=>
   dsimp only
   rw[Sum.elim_inr]
   unfold Tb
   dsimp only
   rw[zu (by omega)]
 have s0:=step (k+1+1) 0 e (by decide) rfl
 have s1:=step (k+1) 1 0 (by decide) rfl
 rw[show((0:Nat):Int)=0 from rfl] at s0
 rw[hk,s0]
 cases eI s.2.2.2.1 e with
 |some v=>rfl
 |none=>
  dsimp only
  rw[s1]
  cases eI s.2.2.2.1 0 with
  |some v=>rfl
  |none=>
   dsimp only
   unfold AN O0
   rw[zF (by decide)];rfl
def fk(l:List bg):List Int->bL->bL
 | [],o=>o
 |no::r,o=>fk l r (match eI l no with
  |some v=>ea o no v.2.1
  |none=>o)
def rU(s:aY)(m:bL)(e:Int):bL:=ea (fk m.2.1 s.2.2.1 (dh m.1,[],())) 39 (gY s e)
def DA(s:aY)(m:bL)(f:bY):bL×Bool:=if er m.1=true then(rU s m f.1,true) else(dk,false)
theorem zqc(m:bL)(no:Int)(t:ByteArray):(ea m no t).2.1.length<=m.2.1.length+1:=Rp m no t
theorem zhb(l:List bg):∀(e:List Int) (o:bL),(fk l e o).2.1.length<=o.2.1.length+e.length
 | [],o=>Nat.le_refl _
 |no::r,o=>by
  rw[fk,List.length_cons]
  have h:=zhb l r (match eI l no with
   |some v=>ea o no v.2.1
   |none=>o)
  cases hx:eI l no with
  |some v=>
   rw[hx] at h
   have:=zqc o no v.2.1
   dsimp only at h⊢
   omega
  |none=>rw[hx] at h;dsimp only at h⊢;omega
theorem zhd{ρ:Type}(m:bL)(hm:m.2.1.length<=1000000)(fin:bL->Option ρ):∀(l:List Int) (i:Int) (o:bL),o.2.1.length+l.length<=1000000->
 bm (fun i (x:Int) (o:bL) K=>(nK m x).bind fun r2=>(bif r2.2 then((gT o x r2.1).bind fun r3=>K r3) else K o)) fin l i o=fin (fk m.2.1 l o)
 | [],i,o,_=>rfl
 |x::r,i,o,h=>by
  rw[List.length_cons] at h
  rw[bm,ajo m x hm,zc,fk]
  cases hx:eI m.2.1 x with
  |some v=>
   have:=zqc o x v.2.1
   dsimp only
   rw[zC,Rr o x _ (by omega),zc]
   exact zhd m hm fin r (i+1) _ (by omega)
  |none=>exact zhd m hm fin r (i+1) o (by omega)
theorem af3(s:aY)(m:bL)(f:bY)(hs:cU s)(he:s.2.2.1.length<=300)(hm:eJ m):sG s m f=some (DA s m f):=by
 have BR:=hm.len
 unfold sG S0 DA
 rw[aaU m.1 (by rw[zh];exact hm.tZ),zc]
 cases hr:er m.1 with
 |false=>rfl
 |true=>
  rw[if_pos rfl,if_pos rfl,Bool.not_true,zD]
  dsimp only
  have hl:=ct (0:Int) s.2.2.1 (by rw[zh];omega) (fun i (x:Int) (o:bL) K=>(nK m x).bind fun r2=>(bif r2.2 then((gT o x r2.1).bind fun r3=>K r3) else K o)) (fun o=>some (s,f,dk,o)) (fun k i o=>OX k s.2.2.1 (s.2.2.1.length:Int) i s m f dk o) (fun k i o=>rfl) (dh m.1,[],())
  have hb:=zhb m.2.1 s.2.2.1 (dh m.1,[],())
  rw[hl,zhd m (by omega) _ _ _ _ (by simp;omega),zc]
  unfold S1
  dsimp only at hb⊢
  rw[ajj s hs.fL,zc,Rr _ _ _ (by rw[List.length_nil] at hb;omega),zc]
  rfl
theorem zu1{a:Spec}:∀{l:List bg} {prev:List Int} {i:Int},eN a prev l i=none->∀c∈l,bJ a c.2.1=0
 | [],_,_,_,c,hc=>by cases hc
 |x::r,prev,i,h,c,rG=>by
  rw[eN] at h
  by_cases hc:gX a prev x=0
  ·rw[zT hc,zC] at h
   rcases List.mem_cons.1 rG with rfl|rG
   ·unfold gX at hc
    cases h1:decide (c.1<0) with
    |true=>rw[h1] at hc;cases hc
    |false=>
     rw[h1,zD] at hc
     cases h2:decide (16<c.1) with
     |true=>rw[h2] at hc;cases hc
     |false=>
      rw[h2,zD] at hc
      cases h3:decide (c.1∈prev) with
      |true=>rw[h3] at hc;cases hc
      |false=>rw[h3,zD] at hc;exact hc
   ·exact zu1 h c rG
  ·rw[zF hc] at h;cases h
structure s6(s:aY):Prop where
 ig:(gP s.1).1=0
 act:bp s.1 39=true
 fL:∀c∈s.2.2.2.1,bJ (aX s.1 39) c.2.1=0
 zero:(0:Int)∈s.2.2.2.1.map fun c=>c.1
theorem ai4{s:aY}(h:(fA s).1=0):s6 s:=by
 unfold fA at h
 by_cases h1:(gP s.1).1=0
 case neg=>rw[zF h1] at h;cases h
 rw[zT h1,Bool.not_true,zD] at h
 cases h2:bp s.1 39 with
 |false=>rw[h2] at h;cases h
 |true=>
  rw[h2,Bool.not_true,zD] at h
  have ne:∀{l:List Int} {prev:List Int} {i:Int} {e:Int×Int},fN s.1 prev l i=some e->e.1≠0:=by
   intro l
   induction l with
   |nil=>intro _ _ _ h;cases h
   |cons x r ih=>
    intro prev i e h
    rw[fN] at h
    by_cases hc:jR s.1 prev x=0
    ·rw[zT hc,zC] at h;exact ih h
    ·rw[zF hc,zD] at h;cases h;exact hc
  have nc:∀{l:List bg} {prev:List Int} {i:Int} {e:Int×Int},eN (aX s.1 39) prev l i=some e->e.1≠0:=by
   intro l
   induction l with
   |nil=>intro _ _ _ h;cases h
   |cons x r ih=>
    intro prev i e h
    rw[eN] at h
    by_cases hc:gX (aX s.1 39) prev x=0
    ·rw[zT hc,zC] at h;exact ih h
    ·rw[zF hc,zD] at h;cases h;exact hc
  cases h3:fN s.1 [] s.2.2.1 0 with
  |some e=>rw[h3] at h;exact absurd h (ne h3)
  |none=>
   rw[h3] at h
   dsimp only at h
   cases h4:eN (aX s.1 39) [] s.2.2.2.1 0 with
   |some e=>rw[h4] at h;exact absurd h (nc h4)
   |none=>
    rw[h4] at h
    dsimp only at h
    by_cases h5:(0:Int)∈s.2.2.2.1.map fun c=>c.1
    ·exact⟨h1,h2,zu1 h4,h5⟩
    ·rw[zF h5] at h;cases h
theorem ah8{s:aY}(h:s6 s)(e:Int):bJ (aX s.1 39) (gY s e)=0:=by
 unfold gY
 cases h1:eI s.2.2.2.1 e with
 |some c=>exact h.fL c (List.mem_of_find?_eq_some h1)
 |none=>
  cases h2:eI s.2.2.2.1 0 with
  |some c=>exact h.fL c (List.mem_of_find?_eq_some h2)
  |none=>
   obtain⟨c,hc,h0⟩:=List.mem_map.1 h.zero
   have:=List.find?_eq_none.1 h2 c hc
   exact absurd (zT h0) this
theorem z119(l:List bg):∀(e:List Int) (o:bL) (v:bg),v∈(fk l e o).2.1->v∈o.2.1\/v∈l
 | [],o,v,h=> .inl h
 |no::r,o,v,h=>by
  rw[fk] at h
  rcases z119 l r _ v h with h|h
  ·cases hx:eI l no with
   |none=>rw[hx] at h;exact .inl h
   |some w=>
    rw[hx] at h
    rcases(Rq o no w.2.1 v).1 h with e|⟨h,_⟩
    ·have hw:=List.find?_some hx
     have hw:w.1=no:=by simpa using hw
     right
     rw[e,<-hw]
     exact List.mem_of_find?_eq_some hx
    ·exact .inl h
  ·exact .inr h
theorem zhc(l:List bg):∀(e:List Int) (o:bL),jH o.2.1->jH (fk l e o).2.1/\(fk l e o).1=o.1
 | [],o,h=>⟨h,rfl⟩
 |no::r,o,h=>by
  rw[fk]
  cases hx:eI l no with
  |none=>exact zhc l r o h
  |some w=>
   obtain⟨h1,h2⟩:=zhc l r (ea o no w.2.1) (zif h no w.2.1)
   exact⟨h1,h2⟩
structure Part(s:zf)(m:bL):Prop where
 head:fE m.1=true->gb m.1=s.2.1
 tZ:m.1.size<=1000
 len:m.2.1.length<=200
 jk:∀v∈m.2.1,bp s v.1=true/\bJ (aX s v.1) v.2.1=0/\v.2.1.size<=999
theorem Part.ok{s:zf}{m:bL}(h:Part s m):eJ m:=⟨by have:=h.tZ;omega,by have:=h.len;omega,fun v hv=>by have:=(h.jk v hv).2.2;omega⟩
theorem ah5{s:aY}(hk:s6 s)(ho:cU s)(he:s.2.2.1.length<=300){m:bL}(hm:Part s.1 m)(e:Int)(hr:er m.1=true):kq s.1 (rU s m e)/\po (rU s m e)/\er (rU s m e).1=false:=by
 obtain⟨r1,r2,r3⟩:=alo hr
 obtain⟨b1,b2⟩:=zhc m.2.1 s.2.2.1 (dh m.1,[],()) List.Pairwise.nil
 have wR:(rU s m e).1=dh m.1:=b2
 have ok:=(AG s.1).1 hk.ig
 have hc:=ah8 hk e
 have eh:(gY s e).size<=1099511627776:=by
  unfold gY
  split
  ·rename_i c h;exact ho.rN c (List.mem_of_find?_eq_some h)
  ·split
   ·rename_i c h;exact ho.rN c (List.mem_of_find?_eq_some h)
   ·exact Nat.zero_le _
 have hf:∀v∈(rU s m e).2.1,bp s.1 v.1=true/\bJ (aX s.1 v.1) v.2.1=0/\v.2.1.size<=999:=fun v hv=>by
  rcases(Rq _ _ _ v).1 hv with rfl|⟨hv,_⟩
  ·obtain⟨v1,v2,v3,_,_⟩:=(Ox _ _ eh).1 hc
   have:=Uz v1
   exact⟨hk.act,hc,by dsimp only;omega⟩
  ·rcases z119 _ _ _ v hv with hv|hv
   ·cases hv
   ·exact hm.jk v hv
 have X8:jH (rU s m e).2.1:=zif b1 39 (gY s e)
 refine⟨⟨hk.ig,by rw[wR];exact r1,by rw[wR,r2];exact hm.head (Ro hr).1,DK.2 ⟨fun v hv=>⟨(hf v hv).1,(hf v hv).2.1⟩,X8,fun v hv=>by have:=alh ok (hf v hv).1;omega⟩⟩,⟨by rw[wR];have:=(q9.1 r1).1;omega,?_,fun v hv=>by have:=(hf v hv).2.2;omega⟩,by rw[wR];exact r3⟩
 have h1:=zhb m.2.1 s.2.2.1 (dh m.1,[],())
 have h2:=zqc (fk m.2.1 s.2.2.1 (dh m.1,[],())) 39 (gY s e)
 unfold rU
 dsimp only[List.length_nil] at h1
 omega
theorem Ki(s:zf)(b:ByteArray)(hb:b.size<=1099511627776):∀(r:List Int) (a:Nat) (o:List bg),(∀v∈o,bp s v.1=true/\bJ (aX s v.1) v.2.1=0/\v.2.1.size<=999)->(∀v∈(kv s b r a o).1,bp s v.1=true/\bJ (aX s v.1) v.2.1=0/\v.2.1.size<=999)/\(kv s b r a o).1.length<=o.length+r.length
 | [],a,o,h=>⟨h,Nat.le_refl _⟩
 |no::r,a,o,h=>by
  rw[kv]
  split
  ·exact⟨h,Nat.le_add_right _ _⟩
  ·rename_i hf
   have hf:bp s no=true:=by cases hh:bp s no with
    |true=>rfl
    |false=>exact absurd hh hf
   split
   ·exact⟨h,Nat.le_add_right _ _⟩
   ·rename_i hz
    generalize hg:qg s.1 (aX s no) b (a:Int)=g at hz⊢
    obtain⟨t,z,e⟩:=g
    dsimp only at hz⊢
    have he:e=0:=Classical.byContradiction fun hn=>hz hn
    subst he
    obtain⟨c1,c2,c3,c4,c5,c6⟩:=zu0 hb hg
    have h2:∀v∈o++ [((no,t,()):bg)],bp s v.1=true/\bJ (aX s v.1) v.2.1=0/\v.2.1.size<=999:=fun v hv=>by
     rcases List.mem_append.1 hv with hv|hv
     ·exact h v hv
     ·rw[List.mem_singleton.1 hv];exact⟨hf,c2,c5⟩
    obtain⟨i1,i2⟩:=Ki s b hb r z.toNat _ h2
    rw[List.length_append,List.length_singleton] at i2
    exact⟨i1,by rw[List.length_cons];omega⟩
theorem Ar(s:zf):Part s dk:=⟨fun h=>(by cases h),Nat.zero_le _,Nat.zero_le _,fun v hv=>(by cases hv)⟩
theorem aic(s:zf)(b:ByteArray)(hb:b.size<=1099511627776):Part s (mL s b).1:=by
 unfold mL
 split
 ·exact Ar s
 cases ht:oh s b with
 |inl e=>exact Ar s
 |inr q=>
  unfold oh at ht
  split at ht
  ·cases ht
  split at ht
  case isFalse=>cases ht
  rename_i hr
  injection ht with ht
  subst ht
  have h4:=(q9.1 hr.1).1
  show Part s (wE s b (iJ s.1 b) _).1
  unfold wE
  split
  ·exact⟨fun _=>hr.2,by dsimp only;omega,Nat.zero_le _,fun v hv=>by cases hv⟩
  ·obtain⟨p1,p2⟩:=Ki s b hb (elems (cQ s.1 b (il s.1)).1 (cQ s.1 b (il s.1)).2.1) (cQ s.1 b (il s.1)).2.2.1.toNat [] (fun v hv=>by cases hv)
   have:=zpt (cQ s.1 b (il s.1)).1 (cQ s.1 b (il s.1)).2.1
   rw[List.length_nil] at p2
   exact⟨fun _=>hr.2,by dsimp only;omega,by dsimp only;omega,p1⟩
def nX(p:aY)(n:Int)(m:bL)(f:bY):Int×ByteArray:=
 if er m.1=true then(if n<((ji p.1 (rU p m f.1)).size:Int) then(3,bs []) else(2,ji p.1 (rU p m f.1))) else(3,bs [])
def Cb(p q:aY)(n:Int)(m:bL)(t:bL×bY):Int×ByteArray:=
 if¬t.2.1=0 then nX p n m t.2 else if n<((ji q.1 t.1).size:Int) then nX p n m (5,129,()) else(1,ji q.1 t.1)
def Ca(p q:aY)(n:Int)(d:bL×bY):Int×ByteArray:=if¬d.2.1=0 then nX p n d.1 d.2 else Cb p q n d.1 (rB p.2.1 p.1 q.1 d.1)
def qW(p q:aY)(n:Int)(b:ByteArray):Int×ByteArray:=Ca p q n (mL p.1 b)
structure qk(p q:aY)(n:Int):Prop where
 n1:1<=n
 n2:n<=65535
 rp:(fA p).1=0
 rq:(fA q).1=0
 mp:(dq p.2.1 p.1 q.1).1=0
 mq:(dq q.2.1 q.1 p.1).1=0
theorem qk.symm{p q:aY}{n:Int}(h:qk p q n):qk q p n:=⟨h.n1,h.n2,h.rq,h.rp,h.mq,h.mp⟩
theorem cL.symm{p q:aY}(h:cL p q):cL q p:=⟨h.sq,h.sp,h.qm,h.pm,h.Ch,h.Ce,h.qe,h.pe,h.qml,h.pml,h.ZS,h.ZQ⟩
theorem Rz{p q:aY}{n:Int}:(gE p q n).1=0↔qk p q n:=by
 unfold gE
 by_cases h1:n<1
 ·rw[zT h1];exact⟨fun h=>(by cases h),fun h=>by have:=h.n1;omega⟩
 by_cases h2:65535<n
 ·rw[zF h1,zT h2];exact⟨fun h=>(by cases h),fun h=>by have:=h.n2;omega⟩
 rw[zF h1,zF h2,zD,zD]
 by_cases h3:(fA p).1=0
 case neg=>rw[zF h3];exact⟨fun h=>absurd h h3,fun h=>absurd h.rp h3⟩
 rw[zT h3,Bool.not_true,zD]
 by_cases h4:(dq p.2.1 p.1 q.1).1=0
 case neg=>rw[zF h4];exact⟨fun h=>absurd h h4,fun h=>absurd h.mp h4⟩
 rw[zT h4,Bool.not_true,zD]
 by_cases h5:(fA q).1=0
 case neg=>rw[zF h5];exact⟨fun h=>absurd h h5,fun h=>absurd h.rq h5⟩
 rw[zT h5,Bool.not_true,zD]
 by_cases h6:(dq q.2.1 q.1 p.1).1=0
 case neg=>rw[zF h6];exact⟨fun h=>absurd h h6,fun h=>absurd h.mq h6⟩
 rw[zT h6]
 exact⟨fun _=>⟨by omega,by omega,h3,h5,h4,h6⟩,fun _=>rfl⟩
theorem ail{s:zf}{m:bL}(h:kq s m):2<=(ji s m).size:=by
 have ho:=(AG s).1 h.ig
 have:=(afQ (s:=s) ho.1 (m:=m.1) (y:=bs []) h.right).2
 have hz:2<=il s.1:=by unfold il;split<;>omega
 unfold ji
 rw[z49,z49]
 omega
theorem Nq{s:zf}{m:bL}(h:kq s m):qb s m=(ji s m,kg):=by
 unfold qb
 rw[if_pos (Ou.2 h)]
theorem afL{p q:aY}(h:cL p q){m:bL}(hm:eJ m)(ht:(rB p.2.1 p.1 q.1 m).2.1=0):kq q.1 (rB p.2.1 p.1 q.1 m).1/\eJ (rB p.2.1 p.1 q.1 m).1:=by
 rcases z194 p.2.1 p.1 q.1 m with⟨f,hf,e⟩|⟨ys,hd,e⟩
 ·rw[e] at ht;exact absurd ht hf
 ·rw[e];exact⟨hd.out h.pm hm,hd.ok h.pm hm⟩
section
variable {p q:aY} {n:Int} (h:cL p q) (h0:qk p q n)
include h h0
theorem z107{m:bL}(hm:Part p.1 m)(f:bY)(cl:List aY):kr m f p (cl,n,())=some (nX p n m f):=by
 unfold kr Tj nX
 rw[af3 p m f h.sp h.pe hm.ok,zc]
 unfold DA
 cases hr:er m.1 with
 |false=>rfl
 |true=>
  obtain⟨b1,b2,_⟩:=ah5 (ai4 h0.rp) h.sp h.pe hm f.1 hr
  have hp:=ail b1
  rw[if_pos rfl,if_pos rfl]
  dsimp only
  rw[Bool.not_true,zD,JZ p.1 _ h.sp.ig b2.ok,zc,Nq b1]
  dsimp only
  rw[zF (fun e=>by rw[e] at hp;exact absurd hp (by decide)),zD]
  by_cases hn:n<((ji p.1 (rU p m f.1)).size:Int)
  ·rw[zT hn,if_pos hn];rfl
  ·rw[zF hn,if_neg hn];rfl
theorem NV(b:ByteArray)(hb:b.size<=1099511627776)(cl:List aY):((qz p.1 b).bind fun r2=>(bif(!(decide (r2.2.1=(0:Int)))) then((kr r2.1 r2.2 p (cl,n,())).bind fun r3=>some (r3.1,r3.2)) else((qB p.2.1 p.1 q.1 r2.1).bind fun r4=>(bif(!(decide (r4.2.1=(0:Int)))) then((kr r2.1 r4.2 p (cl,n,())).bind fun r5=>some (r5.1,r5.2)) else((nQ q.1 r4.1).bind fun r6=>(bif(decide (n<((r6.1).size:Int))) then((kr r2.1 ((5:Int),(129:Int),()) p (cl,n,())).bind fun r7=>some (r7.1,r7.2)) else some ((1:Int),r6.1)))))))=some (qW p q n b):=by
 have kW:=aic p.1 b hb
 have fa:=kW.ok
 rw[acB p.1 b h.sp.ig hb,zc]
 unfold qW Ca
 by_cases hd:(mL p.1 b).2.1=0
 case neg=>rw[zF hd,Bool.not_false,zC,if_pos hd,z107 h h0 kW,zc]
 rw[zT hd,Bool.not_true,zD,if_neg (fun e=>e hd),aav p.2.1 p.1 q.1 _ h.pm (by have:=h.pml;omega) fa (by have:=kW.len;omega) h.sp.ig h.sq.ig,zc]
 unfold Cb
 by_cases ht:(rB p.2.1 p.1 q.1 (mL p.1 b).1).2.1=0
 case neg=>rw[zF ht,Bool.not_false,zC,if_pos ht,z107 h h0 kW,zc]
 obtain⟨t1,t2⟩:=afL h fa ht
 rw[zT ht,Bool.not_true,zD,if_neg (fun e=>e ht),JZ q.1 _ h.sq.ig t2,zc,Nq t1]
 dsimp only
 by_cases hn:n<((ji q.1 (rB p.2.1 p.1 q.1 (mL p.1 b).1).1).size:Int)
 ·rw[zT hn,zC,if_pos hn,z107 h h0 kW,zc]
 ·rw[zF hn,zD,if_neg hn]
end
def j9(p q:aY)(n link:Int)(b:ByteArray):Int×ByteArray:=
 if¬(gE p q n).1=0 then(0,bs []) else if link=0 then qW p q n b else if link=1 then qW q p n b else(0,bs [])
theorem aby(p q:aY)(n link:Int)(b:ByteArray)(h:cL p q)(hb:b.size<=1099511627776):sL ([p,q],n,()) link b=some (j9 p q n link b):=by
 unfold sL Ti j9
 rw[zdj p q n h,zc]
 by_cases hc:(gE p q n).1=0
 case neg=>rw[zF hc,if_pos hc];rfl
 have h0:=Rz.1 hc
 rw[zT hc,Bool.not_true,zD,if_neg (fun e=>e hc)]
 by_cases l0:link=0
 ·subst l0
  rw[if_pos rfl,zF (by decide),zD,zF (by decide),zD]
  simp only[qZ,q7,xt,EX,EY]
  exact NV h h0 b hb [p,q]
 ·rw[if_neg l0]
  by_cases l1:link=1
  ·subst l1
   rw[if_pos rfl,zF (by decide),zD,zF (by decide),zD]
   simp only[qZ,q7,xu,EX,EY]
   exact NV h.symm h0.symm b hb [p,q]
  ·rw[if_neg l1]
   by_cases l2:link<0
   ·rw[zT l2];rfl
   ·rw[zF l2,zD,zT (by omega)];rfl
theorem abC(p q:aY)(n:Int)(h:cL p q):ss ([p,q],n,())=some (decide ((gE p q n).1=0)):=by
 unfold ss Sr
 rw[abt p q n h,zc]
theorem akM{c:xL}(hc:Wf UC c):∃p q n,c=([p,q],n,())/\∃g,mr c=some g/\(g=false->cL p q):=by
 obtain⟨p,q,e⟩:=afP hc.1.1
 obtain⟨cl,n,u⟩:=c
 simp only[Prod.mk.injEq] at e
 obtain⟨rfl,_⟩:=e
 obtain⟨g,hg,fa⟩:=ab0 (p:=p) (q:=q) hc
 exact⟨p,q,n,rfl,g,hg,fa⟩
end bE

namespace bE
open Go.IntKind renaming wrap->zW,i64->zI,u8->zU
open Go Go.Ref
theorem Ns(m:Int):GM m=some (if m<1\/65535<m then .inl 5 else .inr (0,(m,false,[],()))):=by
 unfold GM VP
 by_cases h1:m<1
 ·simp [h1]
 ·by_cases h2:65535<m<;>simp [h1,h2]
def bj(m:Int)(l:List Int):Bool×List Int×List ByteArray:=l.foldl (aR m) (false,[],[])
theorem ais(m:Int)(l:List Int):∀(d:Bool) (b:List Int) (o:List ByteArray),l.foldl (aR m) (d,b,o)=((l.foldl (aR m) (d,b,[])).1,(l.foldl (aR m) (d,b,[])).2.1,o++(l.foldl (aR m) (d,b,[])).2.2):=by
 induction l with
 |nil=>intro d b o;simp
 |cons c r ih=>
  intro d b o
  rw[List.foldl_cons,List.foldl_cons]
  have h:aR m (d,b,o) c=((aR m (d,b,[]) c).1,(aR m (d,b,[]) c).2.1,o++(aR m (d,b,[]) c).2.2):=by
   unfold aR
   simp only
   split
   ·simp
   ·split
    ·simp
    ·split<;>simp
  rw[h,ih]
  generalize aR m (d,b,[]) c=st
  obtain⟨d',b',o'⟩:=st
  rw[ih d' b' o']
  simp
theorem zo1(m:Int)(a b:List Int):bj m (a++b)=((b.foldl (aR m) ((bj m a).1,(bj m a).2.1,[])).1,(b.foldl (aR m) ((bj m a).1,(bj m a).2.1,[])).2.1,(bj m a).2.2++(b.foldl (aR m) ((bj m a).1,(bj m a).2.1,[])).2.2):=by
 unfold bj
 rw[List.foldl_append]
 generalize a.foldl (aR m) (false,[],[])=st
 obtain⟨d,c,o⟩:=st
 rw[ais]
def dA(m:Int)(l:List Int):Fr:=(m,(bj m l).1,(bj m l).2.1,())
theorem aeU(m:Int)(a b:List Int):feed (dA m a) b=((b.foldl (aR m) ((bj m a).1,(bj m a).2.1,[])).2.2,decide ((bj m (a++b)).1=true/\(bj m a).1=false),dA m (a++b)):=by
 unfold feed dA
 rw[zo1]
theorem zud(m:Int)(st:Bool×List Int×List ByteArray)(c:Int)(hc:zn c)(h:(∀x∈st.2.1,zn x)):∀x∈(aR m st c).2.1,zn x:=by
 unfold aR
 split
 ·exact h
 ·split
  ·simp
  ·split
   ·simp
   ·intro x hx
    rcases List.mem_append.1 hx with hx|hx
    ·exact h x hx
    ·simp at hx;subst hx;exact hc
theorem aeV(m:Int)(l:List Int):∀(st:Bool×List Int×List ByteArray),(∀x∈l,zn x)->(∀x∈st.2.1,zn x)->∀x∈(l.foldl (aR m) st).2.1,zn x:=by
 induction l with
 |nil=>intro st _ h;exact h
 |cons c r ih=>intro st hl h;exact ih _ (fun x hx=>hl x (by simp [hx])) (zud m st c (hl c (by simp)) h)
theorem afy(m:Int)(l:List Int)(h:∀x∈l,zn x):∀x∈(bj m l).2.1,zn x:=aeV m l _ h (by simp)
theorem RA(m:Int)(l:List Int):∀(st:Bool×List Int×List ByteArray),(l.foldl (aR m) st).2.1.length<=st.2.1.length+l.length/\(l.foldl (aR m) st).2.2.length<=st.2.2.length+l.length:=by
 induction l with
 |nil=>intro st;simp
 |cons c r ih=>
  intro st
  have h:(aR m st c).2.1.length<=st.2.1.length+1/\(aR m st c).2.2.length<=st.2.2.length+1:=by
   unfold aR
   split
   ·omega
   ·split
    ·simp
    ·split<;>simp
  have:=ih (aR m st c)
  simp only[List.foldl_cons,List.length_cons]
  omega
theorem L8(m:Int)(l:List Int):(bj m l).2.1.length<=l.length/\(bj m l).2.2.length<=l.length:=by
 have:=RA m l (false,[],[])
 simpa [bj] using this
theorem aaE(m:Int)(a:List Int)(s:ByteArray)(ha:∀x∈a,zn x)(h:a.length+s.size<=4398046511104):Ba (dA m a) s=some (((bl s).foldl (aR m) ((bj m a).1,(bj m a).2.1,[])).2.2,decide ((bj m (a++bl s)).1=true/\(bj m a).1=false),dA m (a++bl s)):=by
 rw[ak4 _ _ (afy m a ha) (by have:=(L8 m a).1;simp only[dA];omega),aeU]
theorem ait(p:ByteArray)(h:p.size<=70000):Bb p=some (if p.size<1\/65535<p.size then(bs [],5) else(strOf [(p.size:Int)/256,(p.size:Int)% 256]++p,0)):=by
 unfold Bb VQ
 by_cases h1:p.size<1
 ·rw[zT (by omega),if_pos (.inl h1)];rfl
 rw[zF (by omega),zD]
 by_cases h2:65535<p.size
 ·rw[zT (by omega),if_pos (.inr h2)];rfl
 rw[zF (by omega),if_neg (by omega),z28,zT (by simp;omega)]
 have e1:zW zU (Int.fdiv (p.size:Int) (2^min ((8:Int)).toNat 64))=(p.size:Int)/256:=by
  rw[Int.fdiv_eq_ediv_of_nonneg _ (by decide),z183]
  have:((2:Int)^min ((8:Int)).toNat 64)=256:=by decide
  rw[this];omega
 have e2:zW zU (p.size:Int)=(p.size:Int)% 256:=z183 _
 rw[e1,e2];rfl
def ql(m:Int)(b:List Int):Prop:=b.length<2\/(0<kG b/\kG b<=m/\(b.length:Int)<2+kG b)
theorem Md{b:List Int}{c:Int}(h:2<=b.length):kG (b++ [c])=kG b:=by
 unfold kG
 rw[if_neg (by simp;omega),if_neg (by omega)]
 have e:∀i,i<b.length->(b++ [c]).getD i 0=b.getD i 0:=fun i hi=>by
  rw[List.getD_eq_getElem?_getD,List.getElem?_append_left hi,List.getD_eq_getElem?_getD]
 rw[e 0 (by omega),e 1 (by omega)]
def ml(m:Int)(p:ByteArray):Prop:=1<=p.size/\(p.size:Int)<=m
theorem aeX(m:Int)(st:Bool×List Int×List ByteArray)(c:Int)(hc:zn c)(hb:∀x∈st.2.1,zn x)(hi:ql m st.2.1)(ho:∀p∈st.2.2,ml m p):ql m (aR m st c).2.1/\∀p∈(aR m st c).2.2,ml m p:=by
 have qP:∀x∈st.2.1++ [c],zn x:=fun x hx=>by
  rcases List.mem_append.1 hx with h|h
  ·exact hb x h
  ·simp at h;subst h;exact hc
 have hz:=La qP
 have hl:(st.2.1++ [c]).length=st.2.1.length+1:=by simp
 unfold aR
 split
 ·exact⟨hi,ho⟩
 split
 ·exact⟨.inl (by simp),ho⟩
 split
 ·rename_i h1 h2 h3
  refine⟨.inl (by simp),fun p hp=> ?_⟩
  rcases List.mem_append.1 hp with hp|hp
  ·exact ho p hp
  ·simp at hp
   subst hp
   unfold ml
   rw[z28]
   simp only[List.length_drop]
   have h4:2<=st.2.1.length:=by omega
   have h5:=Md (c:=c) h4
   rcases hi with hi|hi
   ·omega
   ·omega
 ·rename_i h1 h2 h3
  refine⟨?_,ho⟩
  simp only
  unfold ql
  rw[hl]
  by_cases h4:2<=st.2.1.length
  ·have h5:=Md (c:=c) h4
   rcases hi with hi|hi
   ·omega
   ·right
    refine⟨by omega,by omega,?_⟩
    by_cases h6:((st.2.1++ [c]).length:Int)=2+kG (st.2.1++ [c])
    ·exact absurd ⟨h6,by omega⟩ h3
    ·omega
  ·by_cases h6:st.2.1.length=1
   ·right
    have h7:¬(kG (st.2.1++ [c])=0\/m<kG (st.2.1++ [c])):=fun h=>h2 ⟨by omega,h⟩
    omega
   ·left;omega
theorem air(m:Int)(l:List Int):∀(st:Bool×List Int×List ByteArray),(∀x∈l,zn x)->(∀x∈st.2.1,zn x)->ql m st.2.1->(∀p∈st.2.2,ml m p)->ql m (l.foldl (aR m) st).2.1/\∀p∈(l.foldl (aR m) st).2.2,ml m p:=by
 induction l with
 |nil=>intro st _ _ h1 h2;exact⟨h1,h2⟩
 |cons c r ih=>
  intro st hl hb h1 h2
  have hc:=hl c (by simp)
  obtain⟨g1,g2⟩:=aeX m st c hc hb h1 h2
  exact ih _ (fun x hx=>hl x (by simp [hx])) (zud m st c hc hb) g1 g2
theorem ai2(m:Int)(l:List Int)(h:∀x∈l,zn x):ql m (bj m l).2.1:=(air m l _ h (by simp) (.inl (by simp)) (by simp)).1
section
variable {m:Map} {a b:zf} {x:bL} {ys:List bg}
end
end bE

namespace bE
open Go.IntKind renaming wrap->zW,i64->zI,u8->zU
open Go Go.Ref
section
variable {p q:aY} {n:Int} (h:cL p q) (h0:qk p q n)
include h
include h0
end
end bE

namespace bE
open Go.IntKind renaming wrap->zW,i64->zI,u8->zU
open Go Go.Ref
abbrev iv:=Int×Int×ByteArray×Int×Unit
abbrev Gw:=xL×(Option Fr×Option Fr)×Int
def Cd(i:Int)(x:aV)(s:List aV)(K:List aV->Option (List aV×aY×aY)):Option (List aV×aY×aY):=
 bif(decide (x.2.2.2.2.1.length*32<=140737488355328)) then(bif(decide ((s.length+(List.length ([(x.1,x.2.1,x.2.2.1,x.2.2.2.1,x.2.2.2.2.1,())]:List aV)))*64<=140737488355328)) then K (s++ [(x.1,x.2.1,x.2.2.1,x.2.2.2.1,x.2.2.2.2.1,())]) else none) else none
theorem Nc(b1 b2:aY):∀(l:List aV) (i:Int) (s:List aV),(∀r∈l,dO r)->s.length+l.length<=1000000->bm Cd (fun s=>some (s,b1,b2)) l i s=some (s++l,b1,b2)
 | [],i,s,_,_=>by rw[List.append_nil];rfl
 |x::l,i,s,h,hl=>by
  have hp:=(h x (by simp)).eY.len
  simp only[List.length_cons] at hl
  rw[bm,Cd,zT (by omega),zC,zT (by simp only[List.length_cons,List.length_nil];omega),zC,Nc b1 b2 l (i+1) _ (fun r hr=>h r (by simp [hr])) (by simp;omega)]
  rw[List.append_assoc];rfl
theorem NS(s:aY)(h:cU s)(hm:dE s.2.1)(h2:s.1.2.2.1.length<=200):GZ s=some s:=by
 have he:=h.nZ
 have hc:=h.fL
 have hl:=hm.len
 have ht:=hm.m8.len
 unfold GZ V1
 rw[zT (by omega),zC,zT (by omega),zC,zT (by omega),zC,zT (by omega),zC]
 have:=ct ((0:Int),(0:Int),(0:Int),bs [],([]:List bB),()) s.2.1.2.1 (by rw[zh];omega) Cd (fun l=>some (l,(s.1,s.2.1,s.2.2.1,s.2.2.2.1,()),p8))
  (fun k i l=>PC k l s.2.1.2.1 (s.2.1.2.1.length:Int) i (s.1,s.2.1,s.2.2.1,s.2.2.2.1,()) p8) (fun k i l=>rfl) []
 dsimp only
 refine(congrArg (fun o=>Option.bind o _) (this.trans (Nc _ _ s.2.1.2.1 0 [] hm.rules (by simp;omega)))).trans ?_
 rw[zc,List.nil_append]
 unfold V2
 rw[zT (by show s.2.2.1.length*8<=_;omega),zC,zT (by show s.2.2.2.1.length*24<=_;omega),zC]
def gw(c:xL)(n:Int)(x y:ByteArray)(d:Int):Gw:=(c,(some (dA n (bl x)),some (dA n (bl y))),d)
theorem af8(p q:aY)(n:Int)(h:cL p q):x8 ([p,q],n,())=some (if(gE p q n).1=0 then .inr (0,gw ([p,q],n,()) n (bs []) (bs []) 0) else .inl 1):=by
 obtain⟨k,hk⟩:=F5
 unfold x8 VY
 rw[zdj p q n h,zc]
 by_cases h0:(gE p q n).1=0
 case neg=>rw[zF h0,if_neg h0];rfl
 rw[zT h0,if_pos h0,Bool.not_true,zD,hk]
 have hc:=Rz.1 h0
 have hn:¬(n<1\/65535<n):=fun e=>by have:=hc.n1;have:=hc.n2;omega
 unfold EC FV
 simp only[qZ,q7,xt,xu,xr,xv,gp,gq,EX,EY,p6,p7]
 rw[zT (by decide:(0:Int)<2),zC,NS p h.sp h.pm h.Ce,zc,Ns,zc,if_neg hn,Sum.elim_inr]
 dsimp only
 unfold EC FV
 simp only[qZ,q7,xt,xu,xr,xv,gp,gq,EX,EY,p6,p7]
 rw[zT (by decide:(1:Int)<2),zC,NS q h.sq h.qm h.Ch,zc,Ns,zc,if_neg hn,Sum.elim_inr]
 dsimp only
 unfold EC FV
 rw[zF (by decide:¬(2:Int)<2),zD]
 rfl
abbrev Ev:=Int×ByteArray×Unit
abbrev Item:=Int×Option ByteArray
def xg(b:ByteArray):ByteArray:=if b.size<1\/65535<b.size then bs [] else strOf [(b.size:Int)/256,(b.size:Int)% 256]++b
theorem aeW(b:ByteArray)(h:b.size<=70000):∃e,Bb b=some (xg b,e):=by
 rw[ait b h]
 unfold xg
 by_cases hb:b.size<1\/65535<b.size
 ·rw[if_pos hb,if_pos hb];exact⟨_,rfl⟩
 ·rw[if_neg hb,if_neg hb];exact⟨_,rfl⟩
theorem zgs{n:Int}(hn:n<=65535)(p:aY)(m:bL)(f:bY):(nX p n m f).2.size<=65535:=by
 unfold nX
 split
 ·split
  ·exact Nat.zero_le _
  ·rename_i h
   show(ji p.1 (rU p m f.1)).size<=65535
   omega
 ·exact Nat.zero_le _
theorem KU{n:Int}(hn:n<=65535)(p q:aY)(b:ByteArray):(qW p q n b).2.size<=65535:=by
 unfold qW Ca
 split
 ·exact zgs hn _ _ _
 ·unfold Cb
  split
  ·exact zgs hn _ _ _
  ·split
   ·exact zgs hn _ _ _
   ·rename_i h
    show(ji q.1 _).size<=65535
    omega
theorem afk{p q:aY}{n:Int}(link:Int)(b:ByteArray):(j9 p q n link b).2.size<=65535:=by
 unfold j9
 split
 ·exact Nat.zero_le _
 ·rename_i h
  have h0:=Rz.1 (Decidable.not_not.1 h)
  split
  ·exact KU h0.n2 _ _ _
  ·split
   ·exact KU h0.n2 _ _ _
   ·exact Nat.zero_le _
def xe(p q:aY)(n link d:Int)(b:ByteArray):iv×Int:=
 if(j9 p q n link b).1=3 then((link,3,bs [],zW zI (d+1),()),zW zI (d+1))
 else if(j9 p q n link b).1=1 then((zW zI (1-link),1,xg (j9 p q n link b).2,d,()),d)
 else((link,(j9 p q n link b).1,xg (j9 p q n link b).2,d,()),d)
theorem aca(p q:aY)(n link d:Int)(b:ByteArray)(m:Option Fr×Option Fr)(h:cL p q)(hb:b.size<=1099511627776):
 EP (([p,q],n,()),m,d) link b=some ((xe p q n link d b).1,(([p,q],n,()),m,(xe p q n link d b).2)):=by
 unfold EP VW xe
 rw[aby p q n link b h hb,zc]
 have hs:=afk (p:=p) (q:=q) (n:=n) link b
 obtain⟨e,hp⟩:=aeW _ (show(j9 p q n link b).2.size<=70000 by omega)
 generalize j9 p q n link b=r at hs hp⊢
 by_cases h3:r.1=3
 ·rw[zT h3,if_pos h3,zC,h3]
 rw[zF h3,if_neg h3,zD]
 by_cases h1:r.1=1
 ·rw[zT h1,if_pos h1,zC,hp,zc,h1]
 ·rw[zF h1,if_neg h1,zD,hp,zc]
def p9(p q:aY)(n d:Int)(it:Item):iv×Int:=match it.2 with
 |some b=>xe p q n it.1 d b
 |none=>((it.1,4,bs [],d,()),d)
def cq(p q:aY)(n:Int):Int->List Item->List iv×Int
 |d,[]=>([],d)
 |d,it::r=>((p9 p q n d it).1::(cq p q n (p9 p q n d it).2 r).1,(cq p q n (p9 p q n d it).2 r).2)
theorem zhx(p q:aY)(n:Int):∀(a b:List Item) (d:Int),cq p q n d (a++b)=((cq p q n d a).1++(cq p q n (cq p q n d a).2 b).1,(cq p q n (cq p q n d a).2 b).2)
 | [],b,d=>rfl
 |it::a,b,d=>by
  rw[List.cons_append,cq,cq,zhx p q n a b]
  rfl
theorem zhy(p q:aY)(n:Int):∀(a:List Item) (d:Int),(cq p q n d a).1.length=a.length
 | [],d=>rfl
 |it::a,d=>by rw[cq,List.length_cons,List.length_cons,zhy p q n a]
def PX(n:Int)(a:List Int):List (Option ByteArray):=(bj n a).2.2.map some++if(bj n a).1=true then [none] else []
def n9(n:Int)(a b:List Int):List (Option ByteArray):=(PX n (a++b)).drop (PX n a).length
theorem aal(n:Int)(a b:List Int):PX n (a++b)=PX n a++((b.foldl (aR n) ((bj n a).1,(bj n a).2.1,[])).2.2.map some++if decide ((bj n (a++b)).1=true/\(bj n a).1=false)=true then [none] else []):=by
 unfold PX
 have wI:=zo1 n a b
 cases hd:(bj n a).1 with
 |true=>
  rw[hd,Og] at wI
  rw[Og,wI]
  simp
 |false=>
  rw[hd] at wI
  have e1:(bj n (a++b)).2.2=(bj n a).2.2++(b.foldl (aR n) (false,(bj n a).2.1,[])).2.2:=by rw[wI]
  rw[e1]
  simp
theorem M8(n:Int)(a b:List Int):n9 n a b=(b.foldl (aR n) ((bj n a).1,(bj n a).2.1,[])).2.2.map some++if decide ((bj n (a++b)).1=true/\(bj n a).1=false)=true then [none] else []:=by
 unfold n9
 rw[aal,List.drop_left]
theorem LY(n:Int)(a b:List Int):(n9 n a b).length<=b.length+1:=by
 rw[M8]
 have:=(RA n b ((bj n a).1,(bj n a).2.1,[])).2
 rw[List.length_append,List.length_map]
 split
 ·simp at this⊢;omega
 ·simp at this⊢;omega
def tj(k:Int)(i:Int)(x:ByteArray)(s:List iv×Gw)(K:List iv×Gw->Option (List iv×Bool×Gw×Ev)):Option (List iv×Bool×Gw×Ev):=
 (EP s.2 k x).bind fun r4=>(bif(decide ((s.1.length+(List.length ([r4.1]:List iv)))*40<=140737488355328)) then K (s.1++([r4.1]:List iv),r4.2) else none)
theorem LF(p q:aY)(n k:Int)(h:cL p q)(m:Option Fr×Option Fr)(b:Bool)(e:Ev):∀(l:List ByteArray) (i:Int) (s:List iv) (d:Int),(∀x∈l,x.size<=1099511627776)->s.length+l.length<=3000000000000->
 bm (tj k) (fun s=>some (s.1,b,s.2,e)) l i (s,(([p,q],n,()),m,d))=some (s++(cq p q n d (l.map fun x=>(k,some x))).1,b,(([p,q],n,()),m,(cq p q n d (l.map fun x=>(k,some x))).2),e)
 | [],i,s,d,_,_=>by rw[List.map_nil,cq,List.append_nil];rfl
 |x::l,i,s,d,hb,hl=>by
  simp only[List.length_cons] at hl
  rw[bm,tj,aca p q n k d x m h (hb x (by simp)),zc,zT (by simp only[List.length_cons,List.length_nil];omega),zC,
   LF p q n k h m b e l (i+1) _ _ (fun y hy=>hb y (by simp [hy])) (by simp;omega),List.map_cons,cq,List.append_assoc]
  rfl
theorem pZ(k:Int):Bd k=some (decide (k=0\/k=1)):=by
 unfold Bd VZ
 by_cases h:k=0
 ·simp [h]
 ·simp [h]
def jl(n:Int)(xy:ByteArray×ByteArray)(e:Ev):List Item×(ByteArray×ByteArray):=
 if e.1=0 then((n9 n (bl xy.1) (bl e.2.1)).map fun i=>((0:Int),i),(xy.1++e.2.1,xy.2))
 else if e.1=1 then((n9 n (bl xy.2) (bl e.2.1)).map fun i=>((1:Int),i),(xy.1,xy.2++e.2.1))
 else([],xy)
theorem acf(m:Int)(l:List Int):∀(st:Bool×List Int×List ByteArray),∀x∈(l.foldl (aR m) st).2.2,x∈st.2.2\/x.size<=st.2.1.length+l.length:=by
 induction l with
 |nil=>intro st x hx;exact .inl hx
 |cons c r ih=>
  intro st x hx
  have h:(aR m st c).2.1.length<=st.2.1.length+1/\∀y∈(aR m st c).2.2,y∈st.2.2\/y.size<=st.2.1.length+1:=by
   unfold aR
   split
   ·exact⟨by omega,fun y hy=> .inl hy⟩
   ·split
    ·exact⟨by simp,fun y hy=> .inl hy⟩
    ·split
     ·refine⟨by simp,fun y hy=> ?_⟩
      rcases List.mem_append.1 hy with hy|hy
      ·exact .inl hy
      ·right
       have:y=strOf ((st.2.1++ [c]).drop 2):=by simpa using hy
       rw[this,z28,List.length_drop,List.length_append,List.length_cons,List.length_nil]
       omega
     ·exact⟨by simp,fun y hy=> .inl hy⟩
  rcases ih (aR m st c) x hx with h1|h1
  ·rcases h.2 x h1 with h2|h2
   ·exact .inl h2
   ·right;simp;omega
  ·right;have:=h.1;simp;omega
theorem Ks(p q:aY)(n k:Int)(h:cL p q)(a c:ByteArray)(m:Option Fr×Option Fr)(d:Int)(hs:a.size+c.size<=1000000000000)(F:List iv×Bool×Gw×Ev->Option (List iv×Gw)):
 ((Ba (dA n (bl a)) c).bind fun r3=>(FU ai ([]:List iv) r3.2.1 r3.1 ((List.length r3.1):Int) (0:Int) (([p,q],n,()),((fB k.toNat (some r3.2.2) m),d)) (k,c,())).bind F)=
   F ((cq p q n d (((bl c).foldl (aR n) ((bj n (bl a)).1,(bj n (bl a)).2.1,[])).2.2.map fun x=>(k,some x))).1,decide ((bj n (bl a++bl c)).1=true/\(bj n (bl a)).1=false),(([p,q],n,()),fB k.toNat (some (dA n (bl (a++c)))) m,(cq p q n d (((bl c).foldl (aR n) ((bj n (bl a)).1,(bj n (bl a)).2.1,[])).2.2.map fun x=>(k,some x))).2),(k,c,())):=by
 have hla:=zg a
 have hlc:=zg c
 rw[aaE n (bl a) c (fun x hx=>lq hx) (by omega),zc]
 dsimp only
 generalize hl:((bl c).foldl (aR n) ((bj n (bl a)).1,(bj n (bl a)).2.1,[])).2.2=l
 have hlen:l.length<=c.size:=by
  have:=(RA n (bl c) ((bj n (bl a)).1,(bj n (bl a)).2.1,[])).2
  rw[hl] at this
  simp only[List.length_nil] at this;omega
 have du:∀x∈l,x.size<=1099511627776:=fun x hx=>by
  rw[<-hl] at hx
  have h1:=(L8 n (bl a)).1
  rcases acf n (bl c) _ x hx with h2|h2
  ·cases h2
  ·simp only at h2;omega
 have:=ct (bs []) l (by rw[zh];omega) (tj k) (fun s=>some (s.1,decide ((bj n (bl a++bl c)).1=true/\(bj n (bl a)).1=false),s.2,(k,c,())))
  (fun j i s=>FU j s.1 (decide ((bj n (bl a++bl c)).1=true/\(bj n (bl a)).1=false)) l (l.length:Int) i s.2 (k,c,())) (fun j i s=>rfl) ([],(([p,q],n,()),(fB k.toNat (some (dA n (bl a++bl c))) m,d)))
 refine(congrArg (fun o=>Option.bind o F) (this.trans (LF p q n k h _ _ _ l 0 [] d du (by simp;omega)))).trans ?_
 rw[zc,List.nil_append,xB]
theorem acC(p q:aY)(n d:Int)(h:cL p q)(x y:ByteArray)(e:Ev)(hs:x.size+y.size+e.2.1.size<=1000000000000):
 vz (gw ([p,q],n,()) n x y d) e=some ((cq p q n d (jl n (x,y) e).1).1,gw ([p,q],n,()) n (jl n (x,y) e).2.1 (jl n (x,y) e).2.2 (cq p q n d (jl n (x,y) e).1).2):=by
 obtain⟨k,c,u⟩:=e
 cases u
 dsimp only at hs
 unfold vz PA
 rw[pZ,zc]
 have fin:∀(a:ByteArray) (m:Option Fr×Option Fr),a.size+c.size<=1000000000000->k=0\/k=1->
  PB (cq p q n d (((bl c).foldl (aR n) ((bj n (bl a)).1,(bj n (bl a)).2.1,[])).2.2.map fun x=>(k,some x))).1 (decide ((bj n (bl a++bl c)).1=true/\(bj n (bl a)).1=false)) (([p,q],n,()),m,(cq p q n d (((bl c).foldl (aR n) ((bj n (bl a)).1,(bj n (bl a)).2.1,[])).2.2.map fun x=>(k,some x))).2) (k,c,()) (fun a0 a1=>some (a0,a1))=
  some ((cq p q n d ((n9 n (bl a) (bl c)).map fun i=>(k,i))).1,(([p,q],n,()),m,(cq p q n d ((n9 n (bl a) (bl c)).map fun i=>(k,i))).2)):=fun a m hs hk=>by
  have hlc:=zg c
  have hlen:=(RA n (bl c) ((bj n (bl a)).1,(bj n (bl a)).2.1,[])).2
  rw[M8,List.map_append,List.map_map,zhx]
  unfold PB
  generalize hl:((bl c).foldl (aR n) ((bj n (bl a)).1,(bj n (bl a)).2.1,[])).2.2=l at hlen⊢
  simp only[List.length_nil] at hlen
  have e1:((fun i=>(k,i))∘some:ByteArray->Item)=fun x=>(k,some x):=rfl
  rw[e1]
  cases decide ((bj n (bl a++bl c)).1=true/\(bj n (bl a)).1=false) with
  |false=>
   rw[zD,if_neg (by simp)]
   simp [cq]
  |true=>
   rw[zC,if_pos rfl,zhy,List.length_map,zT (by simp only[List.length_cons,List.length_nil];omega),zC]
   simp [cq,p9]
 by_cases h0:k=0
 ·subst h0
  rw[zT (.inl rfl),Bool.not_true,zD]
  dsimp only
  rw[qZ]
  show(getM (0:Int).toNat (some (dA n (bl x)),some (dA n (bl y)))).bind _=_
  rw[show getM (0:Int).toNat (some (dA n (bl x)),some (dA n (bl y)))=some (dA n (bl x)) from rfl,zc]
  refine(Ks p q n 0 h x c (some (dA n (bl x)),some (dA n (bl y))) d (by omega) _).trans ?_
  dsimp only
  rw[fin x _ (by omega) (.inl rfl)]
  rfl
 by_cases h1:k=1
 ·subst h1
  rw[zT (.inr rfl),Bool.not_true,zD]
  dsimp only
  rw[q7]
  show(getM (1:Int).toNat (some (dA n (bl x)),some (dA n (bl y)))).bind _=_
  rw[show getM (1:Int).toNat (some (dA n (bl x)),some (dA n (bl y)))=some (dA n (bl y)) from rfl,zc]
  refine(Ks p q n 1 h y c (some (dA n (bl x)),some (dA n (bl y))) d (by omega) _).trans ?_
  dsimp only
  rw[fin y _ (by omega) (.inr rfl)]
  rfl
 ·rw[zF (fun e=>e.elim h0 h1),Bool.not_false,zC]
  unfold jl
  rw[if_neg h0,if_neg h1]
  rfl
def EL(l:List Ev):Nat:=(l.map fun e=>e.2.1.size).sum
theorem zo2(e:Ev)(l:List Ev):EL (e::l)=e.2.1.size+EL l:=by simp [EL]
theorem afc(n:Int)(x y:ByteArray)(e:Ev):(jl n (x,y) e).2.1.size+(jl n (x,y) e).2.2.size<=x.size+y.size+e.2.1.size/\(jl n (x,y) e).1.length<=e.2.1.size+1:=by
 unfold jl
 split
 ·have:=LY n (bl x) (bl e.2.1)
  rw[zg] at this
  exact⟨by simp [ByteArray.size_append];omega,by simpa using this⟩
 ·split
  ·have:=LY n (bl y) (bl e.2.1)
   rw[zg] at this
   exact⟨by simp [ByteArray.size_append];omega,by simpa using this⟩
  ·exact⟨by simp,by simp⟩
section
variable (p q:aY) (n:Int) (h:cL p q)
include h
end
theorem zdn(c:xL)(n:Int)(x y:ByteArray)(d k:Int):x7 (gw c n x y d) k=some (if k=0 then((bj n (bl x)).2.1.length:Int) else if k=1 then((bj n (bl y)).2.1.length:Int) else 0,gw c n x y d):=by
 unfold x7 VT
 rw[pZ,zc]
 by_cases h0:k=0
 ·subst h0;rw[if_pos rfl,zT (.inl rfl),Bool.not_true,zD,qZ];rfl
 by_cases h1:k=1
 ·subst h1;rw[if_neg h0,if_pos rfl,zT (.inr rfl),Bool.not_true,zD,q7];rfl
 ·rw[if_neg h0,if_neg h1,zF (fun e=>e.elim h0 h1)];rfl
theorem acA(c:xL)(n:Int)(x y:ByteArray)(d k:Int):vw (gw c n x y d) k=some (if k=0 then(bj n (bl x)).1 else if k=1 then(bj n (bl y)).1 else false,gw c n x y d):=by
 unfold vw VR
 rw[pZ,zc]
 by_cases h0:k=0
 ·subst h0;rw[if_pos rfl,zT (.inl rfl),zC,qZ];rfl
 by_cases h1:k=1
 ·subst h1;rw[if_neg h0,if_pos rfl,zT (.inr rfl),zC,q7];rfl
 ·rw[if_neg h0,if_neg h1,zF (fun e=>e.elim h0 h1)];rfl
theorem zdk(g:Gw):Bc g=some (g.2.2,g):=rfl
theorem Un:vA=some true:=by kernel_rfl
def WG(most:Int)(i:Int)(x:Ev)(s:Int)(K:Int->Option (Sum Ik (Int×Int))):Option (Sum Ik (Int×Int)):=
 bif(decide (most<s)) then some (.inl (most,true,s)) else(bif(decide (most<(x.2.1.size:Int))) then some (.inl (most,true,s)) else K (zW zI (s+(x.2.1.size:Int))))
theorem KA(most:Int)(h0:0<=most)(h1:most<=1000000):∀(l:List Ev) (i:Int) (s:Nat),∃r,bm (WG most) (fun s=>some (.inr (most,s))) l i (s:Int)=some r/\(∀z,r= .inl z->z.2.1=true)/\∀z,r= .inr z->z=(most,((s+EL l:Nat):Int))
 | [],i,s=>⟨_,rfl,fun z hz=>(by cases hz),fun z hz=>(by cases hz;rfl)⟩
 |x::l,i,s=>by
  rw[bm,WG,zo2]
  by_cases h2:most<(s:Int)
  ·rw[zT h2]
   exact⟨_,rfl,fun z hz=>(by cases hz;rfl),fun z hz=>(by cases hz)⟩
  rw[zF h2,zD]
  by_cases h3:most<(x.2.1.size:Int)
  ·rw[zT h3]
   exact⟨_,rfl,fun z hz=>(by cases hz;rfl),fun z hz=>(by cases hz)⟩
  rw[zF h3,zD,zj (by omega) (by omega),show(s:Int)+(x.2.1.size:Int)=((s+x.2.1.size:Nat):Int) by omega]
  obtain⟨r,e1,e2,e3⟩:=KA most h0 h1 l (i+1) (s+x.2.1.size)
  exact⟨r,e1,e2,fun z hz=>by rw[e3 z hz,Nat.add_assoc]⟩
theorem ak7(l:List Ev)(most:Int)(h0:0<=most)(h1:most<=1000000)(hl:l.length<=maxLen):∃b,nJ l most=some b/\(b=false->((l.length+EL l:Nat):Int)<=most):=by
 unfold nJ Sx
 dsimp only
 have:=m5 ((0:Int),bs [],()) l hl (WG most) (fun s=>some (.inr (most,s))) (fun k i s=>OO k l most s i)
  (fun k i s hi tz=>by
    show Ed l most s i _ _ _=_
    unfold Ed WG
    rw[zT tz,zC,zm hi tz,zm hi tz])
  (fun k s=>by
    show Ed l most s _ _ _ _=_
    unfold Ed
    rw[zF (by omega)];rfl) (l.length:Int)
 obtain⟨r,e1,e2,e3⟩:=KA most h0 h1 l 0 l.length
 rw[this,e1,zc]
 rcases r with z|z
 ·refine⟨z.2.1,rfl,fun hb=> ?_⟩
  rw[e2 z rfl] at hb
  cases hb
 ·rw[e3 z rfl]
  refine⟨_,rfl,fun hb=> ?_⟩
  have:=of_decide_eq_false hb
  omega
theorem ald(p q:aY)(n:Int){g b:Bool}(hg:mr ([p,q],n,())=some g)(fa:g=false->cL p q){l:List Ev}{most:Int}(hb:nJ l most=some b):
 EQ ([p,q],n,()) l most=some (bif g||b|| !decide ((gE p q n).1=0) then .inl () else .inr (true,gw ([p,q],n,()) n (bs []) (bs []) 0)):=by
 unfold EQ V8
 rw[hg,zc]
 cases g with
 |true=>rfl
 |false=>
  have h:=fa rfl
  rw[zD,hb,zc]
  cases b with
  |true=>rfl
  |false=>
   rw[zD,abC p q n h,zc]
   by_cases h0:(gE p q n).1=0
   case neg=>rw[zF h0];rfl
   rw[zT h0,Bool.not_true,zD,acz p q n h,zc,af8 p q n h,zc,if_pos h0]
   rfl
abbrev tEv:Ty:= .pair (.int .i64) (.pair .str .unit)
theorem akN{c:xL}(hc:Wf UC c){l:List Ev}(hl:Wf (.sl 0 tEv) l)(most:Int)(h0:0<=most)(h1:most<=1000000):
 ∃p q n g b,c=([p,q],n,())/\mr c=some g/\(g=false->cL p q)/\nJ l most=some b/\(b=false->((l.length+EL l:Nat):Int)<=most)/\
  EQ c l most=some (bif g||b|| !decide ((gE p q n).1=0) then .inl () else .inr (true,gw ([p,q],n,()) n (bs []) (bs []) 0)):=by
 obtain⟨p,q,n,rfl,g,hg,fa⟩:=akM hc
 obtain⟨b,hb,hs⟩:=ak7 l most h0 h1 hl.1
 exact⟨p,q,n,g,b,rfl,hg,fa,hb,hs,ald p q n hg fa hb⟩
end bE

namespace bE
open Go.IntKind renaming wrap->zW,i64->zI,u8->zU
open Go Go.Ref
theorem MZ{n:Int}(hn:1<=n)(x:ByteArray):((bj n (bl x)).2.1.length:Int)<n+2:=by
 rcases ai2 n (bl x) (fun _ hb=>lq hb) with h|⟨h1,h2,h3⟩<;>omega
theorem ak1{l:List Ev}{j:Nat}(h:j<l.length):l.getD ((j:Int)).toNat ((0:Int),bs [],())=l[j]:=by
 rw[Int.toNat_natCast,List.getD_eq_getElem?_getD,List.getElem?_eq_getElem h];rfl
theorem aaR(g:Gw)(e:Ev)(h0:¬e.1=0)(h1:¬e.1=1):vz g e=some ([],g):=by
 unfold vz PA
 rw[pZ,zc,zF (fun e=>e.elim h0 h1)]
 rfl
theorem aiB(other:Int)(t:Bool)(l:List Ev)(a b:Int)(c:xL)(n:Int)(hc:c.2.1=n)(hn:1<=n/\n<=65535)(x y:ByteArray)(d:Int):
 AV ai other t l a b 0 c (gw c n x y d)=some (.inr (other,t,l,a,b,c,gw c n x y d)):=by
 obtain⟨k,hk⟩:=F5
 rw[hk]
 have hw:zW zI (c.2.1+2)=n+2:=by rw[hc];exact zj (by omega) (by omega)
 have h1:=MZ hn.1 x
 have h2:=MZ hn.1 y
 rw[AV,FW,zT (by decide:(0:Int)<2),zC,zdn,zc,if_pos rfl]
 dsimp only
 rw[zF (by omega),zD,hw,zF (by omega),zD,xr]
 rw[AV,FW,zT (by decide:(1:Int)<2),zC,zdn,zc,if_neg (by decide),if_pos rfl]
 dsimp only
 rw[zF (by omega),zD,hw,zF (by omega),zD,xv]
 rw[AV,FW,zF (by decide:¬(2:Int)<2),zD]
theorem aaG(p q:aY)(n:Int)(h:cL p q)(hn:1<=n/\n<=65535)(other:Int)(t:Bool)(l:List Ev)(hl:l.length<=1000000):∀(m j k:Nat) (x y:ByteArray) (d:Int),j+m=l.length->m<k->x.size+y.size+EL (l.drop j)<=1000000->
 ∃x' y' d',ED k other t l (l.length:Int) (j:Int) ([p,q],n,()) (gw ([p,q],n,()) n x y d)=some (.inl (other,t,gw ([p,q],n,()) n x' y' d'))/\x'.size+y'.size<=1000000:=by
 intro m
 induction m with
 |zero=>
  intro j k x y d hj hk hs
  obtain⟨k,rfl⟩:∃k',k=k'+1:=⟨k-1,by omega⟩
  exact⟨x,y,d,by rw[ED,PD,zF (by omega)];rfl,by omega⟩
 |succ m ih=>
  intro j k x y d hj hk hs
  obtain⟨k,rfl⟩:∃k',k=k'+1:=⟨k-1,by omega⟩
  have ar:j<l.length:=by omega
  rw[List.drop_eq_getElem_cons ar,zo2] at hs
  have hz:=afc n x y l[j]
  obtain⟨x',y',d',e1,e2⟩:=ih (j+1) k _ _ (cq p q n d (jl n (x,y) l[j]).1).2 (by omega) (by omega) (show(jl n (x,y) l[j]).2.1.size+(jl n (x,y) l[j]).2.2.size+_<=_ by omega)
  refine⟨x',y',d',?_,e2⟩
  rw[ED,PD,zT (by omega),zC,zk ar,ak1 ar,acC p q n d h x y l[j] (by omega),zc]
  dsimp only
  rw[aiB other t l _ _ ([p,q],n,()) n rfl hn,zc,Sum.elim_inr]
  unfold V7
  dsimp only
  rw[zu (by omega)]
  exact e1
theorem ic(c:xL)(l:List Ev)(other:Int)(hc:Wf UC c)(hl:Wf (.sl 0 tEv) l)(ho:Wf (.int .i64) other):G0 c l other=some true:=by
 obtain⟨p,q,n,g,b,rfl,hg,fa,hb,hs,hm⟩:=akN hc hl 2500 (by omega) (by omega)
 unfold G0 V5
 rw[hm,zc]
 cases g with
 |true=>simp only[Bool.true_or,zC,Sum.elim_inl,Un,zc,Bool.not_true,zD]
 |false=>
 have h:=fa rfl
 cases b with
 |true=>simp only[Bool.or_true,Bool.true_or,zC,Sum.elim_inl,Un,zc,Bool.not_true,zD]
 |false=>
 have hs:=hs rfl
 by_cases h0:(gE p q n).1=0
 case neg=>simp only[zF h0,Bool.or_false,Bool.not_false,Bool.or_true,zC,Sum.elim_inl,Un,zc,Bool.not_true,zD]
 have h1:=Rz.1 h0
 rw[zT h0,Bool.or_false,Bool.not_true,Bool.or_false,zD,Sum.elim_inr,Un,zc,Bool.not_true,zD]
 dsimp only
 rw[zD]
 obtain⟨x',y',d',e1,e2⟩:=aaG p q n h ⟨h1.n1,h1.n2⟩ other true l (by omega) l.length 0 ai (bs []) (bs []) 0 (by omega) (by rw[zr];omega) (by rw[List.drop_zero];have:(bs []).size=0:=rfl;omega)
 rw[show((0:Nat):Int)=0 from rfl] at e1
 rw[e1,zc,Sum.elim_inl]
 unfold V6
 dsimp only
 by_cases o0:other=0
 ·rw[zT o0];rfl
 by_cases o1:other=1
 ·rw[zF o0,zT o1];rfl
 rw[zF o0,zF o1,zD,zD,zdk,zc]
 dsimp only
 rw[aaR _ _ o0 o1,zc]
 show(bif decide (((0:Nat):Int)=0) then _ else _)=_
 rw[zT (by decide),zC,zdn,zc,if_neg o0,if_neg o1]
 dsimp only
 rw[zT rfl,zC,acA,zc,if_neg o0,if_neg o1]
 dsimp only
 rw[Bool.not_false,zC,zdk,zc,zT rfl]
end bE

namespace Go.Proofs.YtpjkbbihjoflnaaGreatDoor
noncomputable section
open Go Go.Ref bE
abbrev y0:Go.Ref.Ty:=(.pair .bool (.pair (.sl 5 (.int .u8)) .unit))
abbrev y1:Go.Ref.Ty:=(.pair (.sl 109 (.pair .str (.pair .str .unit))) .unit)
abbrev y2:Go.Ref.Ty:=(.pair (.int .i64) (.pair .str (.pair (.int .i64) .unit)))
abbrev y3:Go.Ref.Ty:=(.pair (.sl 107 (.pair (.int .i64) (.pair .str .unit))) .unit)
abbrev y4:Go.Ref.Ty:=(.pair (.sl 208 (.pair (.int .i64) (.pair .str .unit))) .unit)
abbrev y5:Go.Ref.Ty:=(.pair (.int .i64) (.pair (.int .i64) (.pair (.int .i64) .unit)))
abbrev y6:Go.Ref.Ty:=(.pair (.int .i64) y0)
abbrev y7:Go.Ref.Ty:=(.pair .str y1)
abbrev y8:Go.Ref.Ty:=(.pair .str y4)
abbrev y9:Go.Ref.Ty:=(.pair (.int .i64) y2)
abbrev y10:Go.Ref.Ty:=(.pair (.int .i64) y5)
abbrev y11:Go.Ref.Ty:=(.pair (.int .i64) y7)
abbrev y12:Go.Ref.Ty:=(.pair (.sl 3 (.int .i64)) y3)
abbrev cH:Go.Ref.Ty:=(.pair (.int .i64) y10)
abbrev y14:Go.Ref.Ty:=(.pair (.int .i64) y11)
abbrev cw:Go.Ref.Ty:=(.pair (.int .i64) y14)
abbrev y16:Go.Ref.Ty:=(.pair (.sl 127 cH) .unit)
abbrev y17:Go.Ref.Ty:=(.pair (.int .i64) y16)
abbrev y18:Go.Ref.Ty:=(.pair (.sl 102 cw) .unit)
abbrev aK:Go.Ref.Ty:=(.pair (.int .i64) y17)
abbrev cB:Go.Ref.Ty:=(.pair (.sl 109 (.pair .str (.pair .str .unit))) y18)
abbrev y21:Go.Ref.Ty:=(.pair cB y12)
abbrev cr:Go.Ref.Ty:=(.pair aK y21)
abbrev bu:Go.Ref.Ty:=(.pair (.arr 2 cr) (.pair (.int .i64) .unit))
def Ff:List (Option Ty):=[none,none,some (.int .i64),some (.int .i64),some .bool,some (.int .u8),some (.int .u8),some (.pair (.int .i64) (.pair (.int .i64) (.pair .bool (.pair (.int .u8) .unit)))),some (.pair (.int .i64) (.pair (.int .i64) (.pair .bool (.pair (.int .u8) .unit)))),some .str,some .str,some .str,some (.int .u64),none,none,none,none,none,none,none,none,some (.int .i32),some (.sl 127 cH),some aK,some aK,some (.sl 109 (.pair .str (.pair .str .unit))),some (.sl 102 cw),some cB,some cB,some (.sl 3 (.int .i64)),some (.sl 107 (.pair (.int .i64) (.pair .str .unit))),some cr,some cr,some (.arr 2 cr),some bu,some bu,none,none,none,some (.int .i64),none,none,none,none,none,none,some (.sl 57 (.pair (.int .i64) (.pair .str .unit))),none,none,none,none,some (.arr 2 .str),some (.arr 2 (.int .i64)),some (.arr 2 .bool),some (.pair (.arr 2 .str) (.pair (.arr 2 (.int .i64)) (.pair (.arr 2 .bool) (.pair (.int .i64) .unit)))),some (.pair (.arr 2 .str) (.pair (.arr 2 (.int .i64)) (.pair (.arr 2 .bool) (.pair (.int .i64) .unit)))),some (.pair (.int .i64) (.pair .str .unit)),some (.pair (.int .i64) (.pair .str .unit)),none,some (.sl 71 y9),none,none,none,none,none,none,some (.sl 9 .str),none,none,none,some y9,some y9,none,none,none,none,none,none,none,none,none,none,none,none,none,none,none,none,none,none,none,none,none,none,none,none,none,none,none,some (.sl 5 (.int .u8)),none,some cw,some cw,none,none,none,some (.pair (.int .i64) (.pair .str .unit)),some (.pair (.int .i64) (.pair .str .unit)),some (.pair .str (.pair .str .unit)),some (.pair .str (.pair .str .unit)),none,none,none,some y6,some y6,none,none,none,none,none,none,none,none,none,some (.sl 29 (.sl 3 (.int .i64))),none,some cH,some cH,none,none,none,none,none,none,some (.sl 24 aK),none,none,some (.int .u64),some (.pair (.int .u64) (.pair (.int .u64) .unit)),some (.pair (.int .u64) (.pair (.int .u64) .unit)),none,none,none,none,none,none,none,none,none,none,none,none,none,none,some (.int .u64),some (.sl 208 (.pair (.int .i64) (.pair .str .unit))),some y8,some y8,some (.pair (.int .i64) (.pair (.int .i64) .unit)),some (.pair (.int .i64) (.pair (.int .i64) .unit)),none,none,none,none,none,none,none,none,none,none,none,none,none,none,none,none,none,none,none,none,none,none,none,none,none,none,some (.sl 245 (.pair (.int .i64) (.pair .str .unit))),none,none,none,none,none,none,none,none,none,none,none,none,none,none,none,none,none,none,none,none,some (.pair (.int .i64) (.pair .str .unit)),some (.pair (.int .i64) (.pair .str .unit)),none,none,none,none,none,none,none,none,none,none,none,none,none,none,none,none,none,none,none,none,none,none,none,none,none,none,none,none,none,none,none,none,none,none,none,some (.pair (.int .i64) (.pair .str .unit)),some (.pair (.int .i64) (.pair .str .unit)),none,none,none,some (.sl 39 (.int .i64)),none,none,some (.arr 8 (.int .u8)),none,none,none,none,none,none,none,none,none,none,none,none,none,none,none,none,none,none,none,none,none,none,none,none,none,none,none,none,none,none,none,none,none,none,none,none,none,none,some (.arr 256 .bool),some (.arr 256 .bool),none,none,none,none,some (.int .u32),none,none,none,none,none,none,none,none,some (.arr 256 (.int .u8)),some (.pair (.int .u8) (.pair (.int .u8) .unit)),some (.pair (.int .u8) (.pair (.int .u8) .unit)),some (.arr 16 (.pair (.int .u8) (.pair (.int .u8) .unit))),none,none,none,none,none,none,none,none,some (.int .u8),some (.int .u8),none,some (.int .i32),some (.int .i32),none,none]
def Xa:List Nat:=[0,8,8,8,1,1,1,24,24,16,16,16,8,24,24,8,8,8,8,8,16,4,24,40,40,24,24,48,48,24,24,136,136,272,280,280,8,8,8,8,0,8,8,8,8,8,24,0,8,8,8,32,16,2,64,64,24,24,8,24,8,8,8,8,8,8,24,8,8,8,40,40,8,8,8,8,0,8,8,8,8,8,0,8,8,16,304,304,8,0,8,8,0,8,0,8,8,8,8,24,8,64,64,8,8,8,24,24,32,32,8,8,8,40,40,8,8,8,8,0,8,0,8,8,24,8,40,40,0,8,0,8,8,8,24,8,8,8,16,16,8,8,8,8,8,8,8,8,8,8,0,8,8,8,8,24,40,40,16,16,0,8,0,8,8,0,8,8,8,8,8,8,8,8,0,8,0,8,8,8,8,8,0,8,8,8,24,0,8,8,8,8,8,8,8,8,8,32,32,16,16,0,8,8,8,8,8,24,24,8,8,0,8,0,8,8,8,0,8,0,8,0,8,0,8,8,8,8,0,8,8,8,8,0,8,8,8,0,8,8,8,8,8,8,24,24,8,8,8,24,0,8,8,8,8,8,8,0,8,0,8,8,8,8,0,8,0,8,8,0,8,8,8,8,8,8,8,8,8,8,8,8,8,8,8,8,0,8,8,8,8,256,256,0,8,8,8,4,0,8,8,0,8,8,8,8,256,2,2,32,8,8,8,40,40,0,0,0,1,1,8,4,4,48,48]
def Au:List Bool:=[false,false,false,false,false,false,false,false,false,false,false,false,false,false,false,true,true,true,false,false,false,false,false,false,false,false,false,false,false,false,false,false,false,false,false,false,false,false,true,false,false,false,false,false,false,false,false,false,false,false,true,false,false,false,false,false,false,false,false,false,false,false,false,false,false,false,false,false,false,false,false,false,false,false,false,false,false,false,false,false,false,false,false,false,true,false,false,false,false,false,false,false,false,false,false,false,false,false,false,false,false,false,false,false,false,false,false,false,false,false,false,false,false,false,false,false,false,false,false,false,false,false,false,false,false,false,false,false,false,false,false,false,false,false,false,false,false,false,false,false,false,false,false,false,false,false,false,false,false,false,false,false,false,false,false,false,false,false,false,false,false,false,false,false,false,false,false,false,false,false,false,false,false,false,false,false,false,false,false,false,false,false,false,false,false,false,false,false,false,false,false,false,false,false,false,false,true,false,false,false,false,false,false,false,false,false,false,false,false,false,false,false,false,false,false,false,false,false,false,false,false,false,false,false,false,false,false,false,false,false,false,false,false,false,false,false,false,false,false,false,false,false,false,false,false,false,false,false,false,false,false,false,false,false,false,false,true,false,false,false,false,false,false,false,false,false,false,false,false,false,false,false,false,false,false,false,false,false,false,false,false,false,false,false,false,false,false,false,false,false,false,false,false,false,false,false,true,false,false,false,false,false,false,false,false,false,false,false,false,false,false,false,false,false,false,false,false,false,false,false,false,false,false,false,false]
def Qy:List (TypeId×TypeId×TypeId):=[(135,9,4),(277,3,4)]
def b8:pq:=⟨Ff,Xa,Au,Qy⟩
theorem WR:b8.ok Tryz.prog=true:=by kernel_rfl
theorem ek:∀a b c d,aq Tryz.prog (b8.env a b c d):=pq.lM WR
abbrev e0(ps:List Ty):Env:=b8.env (fun _=>[]) (fun _=>[]) [] ps
abbrev uS(n:Nat)(l:List (List SV)):List (List SV):=Nat.rec (motive:=fun _=>List (List SV)) l (fun _ r=>[.undef]::r) n
abbrev nS(n:Nat)(l:List (Option bC)):List (Option bC):=Nat.rec (motive:=fun _=>List (Option bC)) l (fun _ r=>none::r) n
def P7:ah:=ah.none
theorem o0:aO Tryz.prog P7:= .none (by kernel_rfl)
variable (R:Type) (kk k:Nat) (K:KF R) (J:KX R)
def UN:Env:=b8.env (fun i=>bif Nat.beq i 4 then [1,3] else []) (fun i=>bif Nat.beq i 4 then [2] else []) [] [cr]
def Si(a:Int)(b:au):Option R:=aB (ev UN (P7 R) kk (sub [1,1,0,1,0,0] (cd Tryz.f34))) [1,3] [2] k ⟨uS 1 ([.ptr 2 cr []]::uS 1 ([tI a]::uS 32 [])),nS 2 ((some ⟨cr,b,[]⟩)::nS 34 [])⟩ J
def zea(a:Bool):State:=⟨uS 2 ([tB a]::uS 33 []),nS 37 []⟩
def zeb:State:=⟨uS 36 [],nS 37 []⟩
def zwl:KX R:=(zi 0 (aU UN (P7 R) kk (sub [1,1,1] (cd Tryz.f34)) (aT UN Tryz.f34.results.toList none K)))
theorem ajE(a:Int)(b:au):Si R kk (k+1) J a b=
 zwm a b (fun a0=>J .ret (zea a0)) (Si R kk k J) (J (.exit 0) (zeb)):=by kernel_rfl
theorem ac6(a:Bool):zwl R kk K .ret (zea a)=
 zwn a (fun a0=>K [tB a0] none):=by kernel_rfl
theorem ac7:zwl R kk K (.exit 0) (zeb)=
 zwo (fun a0=>K [tB a0] none):=by kernel_rfl
theorem agx{kk:Nat}(hF:kk=ai)(t3:Int)(cW:au):Si R kk k J t3 cW=(OM k t3 cW).bind fun e=>(Sum.elim (fun(we:Bool)=>J .ret (zea we)) (fun(we:Unit)=>J (.exit 0) (zeb)) e):=by
 induction k generalizing t3 cW with
 |zero=>rfl
 |succ k ih=>
  rw[ajE]
  simp only[OM,zwm,ih,aF]
def P8:ah:=P7.add 34 [cr] (cK cr mo (fun _ r K=>K [tB r] none))
theorem o1:aO Tryz.prog P8:=cM UN Tryz.f34 (fun R kk x0 K=>Sj x0 (fun a0=>K [tB a0] none) (Si R kk kk (zwl R kk K))) o0 (ek _ _ _ _) Tryz.func34 (by kernel_rfl) rfl (fun _ _ _ _ _ _ h=>h _ _) (fun _ _ _ _=>by kernel_rfl) fun R kk e x0 K=>by
 simp only[mo,Sj,zwn,zwo,agx (hF:=e),ac6,ac7,aF,<-e]
def UJ:Env:=b8.env (fun i=>bif Nat.beq i 4 then [1,3] else []) (fun i=>bif Nat.beq i 4 then [2] else []) [] [cw]
def RU(a:Int)(b:aE):Option R:=aB (ev UJ (P8 R) kk (sub [1,1,0,1,0,0] (cd Tryz.f54))) [1,3] [2] k ⟨uS 1 ([.ptr 2 cw []]::uS 1 ([tI a]::uS 35 [])),nS 2 ((some ⟨cw,b,[]⟩)::nS 37 [])⟩ J
def zdu(a:Bool):State:=⟨uS 2 ([tB a]::uS 36 []),nS 40 []⟩
def zdv:State:=⟨uS 39 [],nS 40 []⟩
def zvz:KX R:=(zi 0 (aU UJ (P8 R) kk (sub [1,1,1] (cd Tryz.f54)) (aT UJ Tryz.f54.results.toList none K)))
theorem ajv(a:Int)(b:aE):RU R kk (k+1) J a b=
 OC a b (fun a0=>J .ret (zdu a0)) (RU R kk k J) (J (.exit 0) (zdv)):=by kernel_rfl
theorem acP(a:Bool):zvz R kk K .ret (zdu a)=
 zw0 a (fun a0=>K [tB a0] none):=by kernel_rfl
theorem acQ:zvz R kk K (.exit 0) (zdv)=
 zw1 (fun a0=>K [tB a0] none):=by kernel_rfl
theorem ago{kk:Nat}(hF:kk=ai)(t3:Int)(cW:aE):RU R kk k J t3 cW=(xF k t3 cW).bind fun e=>(Sum.elim (fun(we:Bool)=>J .ret (zdu we)) (fun(we:Unit)=>J (.exit 0) (zdv)) e):=by
 induction k generalizing t3 cW with
 |zero=>rfl
 |succ k ih=>
  rw[ajv]
  simp only[xF,OC,ih,aF]
def EU:ah:=P8.add 54 [cw] (cK cw nI (fun _ r K=>K [tB r] none))
theorem o2:aO Tryz.prog EU:=cM UJ Tryz.f54 (fun R kk x0 K=>RV x0 (fun a0=>K [tB a0] none) (RU R kk kk (zvz R kk K))) o1 (ek _ _ _ _) Tryz.func54 (by kernel_rfl) rfl (fun _ _ _ _ _ _ h=>h _ _) (fun _ _ _ _=>by kernel_rfl) fun R kk e x0 K=>by
 simp only[nI,RV,zw0,zw1,ago (hF:=e),acP,acQ,aF,<-e]
def Es:Env:=b8.env (fun i=>bif Nat.beq i 4 then [1,3] else bif Nat.beq i 9 then [1,4] else []) (fun i=>bif Nat.beq i 4 then [1,2] else bif Nat.beq i 9 then [2] else []) [] [cB]
def R6(a:Int)(b:ay):Option R:=aB (ev Es (EU R) kk (sub [1,1,0,1,0,0] (cd Tryz.f35))) [1,3] [1,2] k ⟨uS 1 ([.ptr 2 cB []]::uS 1 ([tI a]::uS 49 [])),nS 2 ((some ⟨cB,b,[]⟩)::nS 51 [])⟩ J
def ze2(a:Bool)(b:ay):State:=⟨uS 1 ([.ptr 2 cB []]::[tB a]::uS 50 []),nS 2 ((some ⟨cB,b,[]⟩)::nS 51 [])⟩
def ze3(a:ay):State:=⟨uS 1 ([.ptr 2 cB []]::uS 51 []),nS 2 ((some ⟨cB,a,[]⟩)::nS 51 [])⟩
def zwb:KX R:=(zi 0 (aU Es (EU R) kk (sub [1,1,1] (cd Tryz.f35)) (aT Es Tryz.f35.results.toList none K)))
def R7(a:Int)(b:ay):Option R:=aB (ev Es (EU R) kk (sub [1,1,1,0,1,0,0] (cd Tryz.f35))) [1,4] [2] k ⟨uS 1 ([.ptr 2 cB []]::uS 2 ([tI a]::uS 48 [])),nS 2 ((some ⟨cB,b,[]⟩)::nS 51 [])⟩ J
def ze4(a:Bool):State:=⟨uS 2 ([tB a]::uS 50 []),nS 54 []⟩
def ze5:State:=⟨uS 53 [],nS 54 []⟩
def zwc:KX R:=(zi 2 (aU Es (EU R) kk (sub [1,1,1,1] (cd Tryz.f35)) (aT Es Tryz.f35.results.toList none K)))
theorem ajA(a:Int)(b:ay):R6 R kk (k+1) J a b=
 OJ a b (fun a0 a1=>J .ret (ze2 a0 a1)) (R6 R kk k J) (fun a0=>J (.exit 0) (ze3 a0)):=by kernel_rfl
theorem acY(a:Bool)(b:ay):zwb R kk K .ret (ze2 a b)=
 zwd a b (fun a0=>K [tB a0] none):=by kernel_rfl
theorem acZ(a:ay):zwb R kk K (.exit 0) (ze3 a)=
 R9 a (R7 R kk kk (zwc R kk K)):=by kernel_rfl
theorem ajB(a:Int)(b:ay):R7 R kk (k+1) J a b=
 zwe a b (fun a0=>J .ret (ze4 a0)) (R7 R kk k J) (J (.exit 2) (ze5)):=by kernel_rfl
theorem ac0(a:Bool):zwc R kk K .ret (ze4 a)=
 zwf a (fun a0=>K [tB a0] none):=by kernel_rfl
theorem ac1:zwc R kk K (.exit 2) (ze5)=
 zwg (fun a0=>K [tB a0] none):=by kernel_rfl
theorem agt{kk:Nat}(hF:kk=ai)(t3:Int)(cW:ay):R6 R kk k J t3 cW=(xG k t3 cW).bind fun e=>(Sum.elim (fun(we:(Bool×ay))=>J .ret (ze2 we.1 we.2)) (fun(we:ay)=>J (.exit 0) (ze3 we)) e):=by
 induction k generalizing t3 cW with
 |zero=>rfl
 |succ k ih=>
  rw[ajA]
  simp only[xG,OJ,ih,aF]
theorem agu{kk:Nat}(hF:kk=ai)(t4:Int)(cW:ay):R7 R kk k J t4 cW=(OI k t4 cW).bind fun e=>(Sum.elim (fun(we:Bool)=>J .ret (ze4 we)) (fun(we:Unit)=>J (.exit 2) (ze5)) e):=by
 induction k generalizing t4 cW with
 |zero=>rfl
 |succ k ih=>
  rw[ajB]
  simp only[OI,zwe,ih,aF]
def Tb3:ah:=EU.add 35 [cB] (cK cB ly (fun _ r K=>K [tB r] none))
theorem o3:aO Tryz.prog Tb3:=cM Es Tryz.f35 (fun R kk x0 K=>R8 x0 (fun a0=>K [tB a0] none) (R6 R kk kk (zwb R kk K))) o2 (ek _ _ _ _) Tryz.func35 (by kernel_rfl) rfl (fun _ _ _ _ _ _ h=>h _ _) (fun _ _ _ _=>by kernel_rfl) fun R kk e x0 K=>by
 simp only[ly,R8,zwd,R9,zwf,zwg,agt (hF:=e),agu (hF:=e),acY,acZ,ac0,ac1,aF,<-e]
def alK:Env:=e0 [bu]
def P9:ah:=Tb3.add 11 [bu] (cK bu mr (fun _ r K=>K [tB r] none))
theorem o4:aO Tryz.prog P9:=cM alK Tryz.f11 (fun R kk x0 K=>Sq x0 (fun a0=>K [tB a0] none)) o3 (ek _ _ _ _) Tryz.func11 (by kernel_rfl) rfl (fun _ _ _ _ _ _ h=>h _ _) (fun _ _ _ _=>by kernel_rfl) fun R kk e x0 K=>by
 simp only[mr,Sq,aF]
def UU:Env:=b8.env (fun i=>bif Nat.beq i 3 then [0,1,5,6] else []) (fun i=>bif Nat.beq i 3 then [1,4,5] else []) [] [(.sl 57 (.pair (.int .i64) (.pair .str .unit))),(.int .i64)]
def Sw(a:ap)(b c d:Int):Option R:=aB (ev UU (P9 R) kk (sub [1,1,0,1,0,0] (cd Tryz.f19))) [0,1,5,6] [1,4,5] k ⟨[.ak (.sl 57 (.pair (.int .i64) (.pair .str .unit))) a []]::[tI b]::uS 3 ([tI c]::[tI d]::uS 32 []),nS 40 []⟩ J
def zek(a:Int)(b:Bool)(c:Int):State:=⟨uS 1 ([tI a]::uS 2 ([tB b]::[tI c]::uS 33 [])),nS 40 []⟩
def zel(a b:Int):State:=⟨uS 1 ([tI a]::uS 3 ([tI b]::uS 33 [])),nS 40 []⟩
def zx4:KX R:=(zi 0 (aU UU (P9 R) kk (sub [1,1,1] (cd Tryz.f19)) (aT UU Tryz.f19.results.toList none K)))
theorem ajK(a:ap)(b c d:Int):Sw R kk (k+1) J a b c d=
 Ed a b c d (fun a0 a1 a2=>J .ret (zek a0 a1 a2)) (Sw R kk k J) (fun a0 a1=>J (.exit 0) (zel a0 a1)):=by kernel_rfl
theorem adh(a:Int)(b:Bool)(c:Int):zx4 R kk K .ret (zek a b c)=
 zx5 a b c (fun a0=>K [tB a0] none):=by kernel_rfl
theorem adi(a b:Int):zx4 R kk K (.exit 0) (zel a b)=
 zx6 a b (fun a0=>K [tB a0] none):=by kernel_rfl
theorem agD{kk:Nat}(hF:kk=ai)(gM:ap)(n8 t5 t6:Int):Sw R kk k J gM n8 t5 t6=(OO k gM n8 t5 t6).bind fun e=>(Sum.elim (fun(we:Ik)=>J .ret (zek we.1 we.2.1 we.2.2)) (fun(we:(Int×Int))=>J (.exit 0) (zel we.1 we.2)) e):=by
 induction k generalizing gM n8 t5 t6 with
 |zero=>rfl
 |succ k ih=>
  rw[ajK]
  simp only[OO,Ed,ih,aF]
def Tb5:ah:=P9.add 19 [(.sl 57 (.pair (.int .i64) (.pair .str .unit))),(.int .i64)] (dw (.sl 57 (.pair (.int .i64) (.pair .str .unit))) (.int .i64) nJ (fun _ r K=>K [tB r] none))
theorem o5:aO Tryz.prog Tb5:=dD UU Tryz.f19 (fun R kk x0 x1 K=>Sx x0 x1 (Sw R kk kk (zx4 R kk K))) o4 (ek _ _ _ _) Tryz.func19 (by kernel_rfl) rfl (fun _ _ _ _ _ _ h=>h _ _) (fun _ _ _ _ _=>by kernel_rfl) fun R kk e x0 x1 K=>by
 simp only[nJ,Sx,zx5,zx6,agD (hF:=e),adh,adi,aF,<-e]
def He:Env:=e0 [cH]
def Qa:ah:=Tb5.add 109 [cH] (cK cH yf (fun _ r K=>K [tI r] none))
theorem o6:aO Tryz.prog Qa:=cM He Tryz.f109 (fun R kk x0 K=>Ws x0 (fun a0=>K [tI a0] none)) o5 (ek _ _ _ _) Tryz.func109 (by kernel_rfl) rfl (fun _ _ _ _ _ _ h=>h _ _) (fun _ _ _ _=>by kernel_rfl) fun R kk e x0 K=>by
 simp only[yf,Ws,aF]
def pj:Env:=b8.env (fun i=>bif Nat.beq i 7 then [1,4,5] else []) (fun i=>bif Nat.beq i 7 then [2,3] else []) [] [aK]
def Wt(a b:Int)(c:af):Option R:=aB (ev pj (Qa R) kk (sub [1,1,1,1,0,1,0,0] (cd Tryz.f108))) [1,4,5] [2,3] k ⟨uS 1 ([.ptr 2 aK []]::uS 2 ([tI a]::[tI b]::uS 49 [])),nS 2 ((some ⟨aK,c,[]⟩)::nS 53 [])⟩ J
def zpb(a b:Int):State:=⟨uS 2 ([tI a]::[tI b]::uS 51 []),nS 56 []⟩
def zpc:State:=⟨uS 55 [],nS 56 []⟩
def Dp:KX R:=(zi 0 (aU pj (Qa R) kk (sub [1,1,1,1,1] (cd Tryz.f108)) (aT pj Tryz.f108.results.toList none K)))
theorem amM(a b:Int)(c:af):Wt R kk (k+1) J a b c=
 PL a b c (fun a0 a1=>J .ret (zpb a0 a1)) (Wt R kk k J) (J (.exit 0) (zpc)):=by kernel_rfl
theorem ahK(a b:Int):Dp R kk K .ret (zpb a b)=
 Wu a b (fun a0 a1=>K [tI a0,tI a1] none):=by kernel_rfl
theorem ahL:Dp R kk K (.exit 0) (zpc)=
 Wv (fun a0 a1=>K [tI a0,tI a1] none):=by kernel_rfl
theorem akG{kk:Nat}(hF:kk=ai)(t4 t5:Int)(cW:af):Wt R kk k J t4 t5 cW=(xM k t4 t5 cW).bind fun e=>(Sum.elim (fun(we:(Int×Int))=>J .ret (zpb we.1 we.2)) (fun(we:Unit)=>J (.exit 0) (zpc)) e):=by
 induction k generalizing t4 t5 cW with
 |zero=>rfl
 |succ k ih=>
  rw[amM]
  simp only[xM,PL,ih,aF]
def Tb7:ah:=Qa.add 108 [aK] (cK aK Hi (fun _ r K=>K [tI r.1,tI r.2] none))
theorem o7:aO Tryz.prog Tb7:=cM pj Tryz.f108 (fun R kk x0 K=>F1 x0 (fun a0 a1=>K [tI a0,tI a1] none) (fun a0 a1 a2=>Wt R kk kk (Dp R kk K) a0 a1 a2)) o6 (ek _ _ _ _) Tryz.func108 (by kernel_rfl) rfl (fun _ _ _ _ _ _ h=>h _ _) (fun _ _ _ _=>by kernel_rfl) fun R kk e x0 K=>by
 simp only[Hi,aaT,Wu,Wv,akG (hF:=e),ahK,ahL,aF,<-e]
def Hl:Env:=e0 [aK]
def Qb:ah:=Tb7.add 77 [aK] (cK aK Be (fun _ r K=>K [tB r] none))
theorem o8:aO Tryz.prog Qb:=cM Hl Tryz.f77 (fun R kk x0 K=>Wz x0 (fun a0=>K [tB a0] none)) o7 (ek _ _ _ _) Tryz.func77 (by kernel_rfl) rfl (fun _ _ _ _ _ _ h=>h _ _) (fun _ _ _ _=>by kernel_rfl) fun R kk e x0 K=>by
 simp only[Be,Wz,aF]
def pk:Env:=b8.env (fun i=>bif Nat.beq i 2 then [1,2,5] else []) (fun i=>bif Nat.beq i 2 then [4] else []) [] [aK,(.int .i64)]
def Wx(a b:Int)(c:af):Option R:=aB (ev pk (Qb R) kk (sub [1,0,1,0,0] (cd Tryz.f78))) [1,2,5] [4] k ⟨uS 1 ([tI a]::[.ptr 3 aK []]::uS 2 ([tI b]::uS 16 [])),nS 3 ((some ⟨aK,c,[]⟩)::nS 19 [])⟩ J
def zpd(a:Int):State:=⟨uS 4 ([tI a]::uS 17 []),nS 23 []⟩
def zpe:State:=⟨uS 22 [],nS 23 []⟩
def z159:KX R:=(zi 0 (aU pk (Qb R) kk (sub [1,1] (cd Tryz.f78)) (aT pk Tryz.f78.results.toList none K)))
theorem amN(a b:Int)(c:af):Wx R kk (k+1) J a b c=
 Dq a b c (fun a0=>J .ret (zpd a0)) (Wx R kk k J) (J (.exit 0) (zpe)):=by kernel_rfl
theorem ahM(a:Int):z159 R kk K .ret (zpd a)=
 Dr a (fun a0=>K [tI a0] none):=by kernel_rfl
theorem ahN:z159 R kk K (.exit 0) (zpe)=
 Ds (fun a0=>K [tI a0] none):=by kernel_rfl
theorem akH{kk:Nat}(hF:kk=ai)(fe t5:Int)(dy:af):Wx R kk k J fe t5 dy=(PM k fe t5 dy).bind fun e=>(Sum.elim (fun(we:Int)=>J .ret (zpd we)) (fun(we:Unit)=>J (.exit 0) (zpe)) e):=by
 induction k generalizing fe t5 dy with
 |zero=>rfl
 |succ k ih=>
  rw[amN]
  simp only[PM,Dq,ih,aF]
def Qc:ah:=Qb.add 78 [aK,(.int .i64)] (dw aK (.int .i64) yh (fun _ r K=>K [tI r] none))
theorem o9:aO Tryz.prog Qc:=dD pk Tryz.f78 (fun R kk x0 x1 K=>Wy x0 x1 (Wx R kk kk (z159 R kk K))) o8 (ek _ _ _ _) Tryz.func78 (by kernel_rfl) rfl (fun _ _ _ _ _ _ h=>h _ _) (fun _ _ _ _ _=>by kernel_rfl) fun R kk e x0 x1 K=>by
 simp only[yh,Wy,Dr,Ds,akH (hF:=e),ahM,ahN,aF,<-e]
def oY:Env:=b8.env (fun i=>bif Nat.beq i 2 then [0,1,5] else []) (fun i=>bif Nat.beq i 2 then [4] else []) [] [(.sl 3 (.int .i64)),(.int .i64)]
def Wn(a:(List Int))(b c:Int):Option R:=aB (ev oY (Qc R) kk (sub [1,0,1,0,0] (cd Tryz.f79))) [0,1,5] [4] k ⟨[.ak (.sl 3 (.int .i64)) a []]::[tI b]::uS 3 ([tI c]::uS 12 []),nS 19 []⟩ J
def zp5(a:Bool):State:=⟨uS 4 ([tB a]::uS 13 []),nS 19 []⟩
def zp6:State:=⟨uS 18 [],nS 19 []⟩
def Di:KX R:=(zi 0 (aU oY (Qc R) kk (sub [1,1] (cd Tryz.f79)) (aT oY Tryz.f79.results.toList none K)))
theorem amH(a:(List Int))(b c:Int):Wn R kk (k+1) J a b c=
 PF a b c (fun a0=>J .ret (zp5 a0)) (Wn R kk k J) (J (.exit 0) (zp6)):=by kernel_rfl
theorem ahE(a:Bool):Di R kk K .ret (zp5 a)=
 Dj a (fun a0=>K [tB a0] none):=by kernel_rfl
theorem ahF:Di R kk K (.exit 0) (zp6)=
 Dk (fun a0=>K [tB a0] none):=by kernel_rfl
theorem akB{kk:Nat}(hF:kk=ai)(gM:(List Int))(lW t5:Int):Wn R kk k J gM lW t5=(EF k gM lW t5).bind fun e=>(Sum.elim (fun(we:Bool)=>J .ret (zp5 we)) (fun(we:Unit)=>J (.exit 0) (zp6)) e):=by
 induction k generalizing gM lW t5 with
 |zero=>rfl
 |succ k ih=>
  rw[amH]
  simp only[EF,PF,ih,aF]
def vE:ah:=Qc.add 79 [(.sl 3 (.int .i64)),(.int .i64)] (dw (.sl 3 (.int .i64)) (.int .i64) G8 (fun _ r K=>K [tB r] none))
theorem YE:aO Tryz.prog vE:=dD oY Tryz.f79 (fun R kk x0 x1 K=>Wo x0 x1 (Wn R kk kk (Di R kk K))) o9 (ek _ _ _ _) Tryz.func79 (by kernel_rfl) rfl (fun _ _ _ _ _ _ h=>h _ _) (fun _ _ _ _ _=>by kernel_rfl) fun R kk e x0 x1 K=>by
 simp only[G8,Wo,Dj,Dk,akB (hF:=e),ahE,ahF,aF,<-e]
def UO:Env:=b8.env (fun i=>bif Nat.beq i 2 then [0,1,2,7] else []) (fun i=>bif Nat.beq i 2 then [6] else []) [] [(.sl 107 (.pair (.int .i64) (.pair .str .unit))),(.int .i64),(.int .i64)]
def Sk(a:ap)(b c d:Int):Option R:=aB (ev UO (vE R) kk (sub [1,0,1,0,0] (cd Tryz.f80))) [0,1,2,7] [6] k ⟨[.ak (.sl 107 (.pair (.int .i64) (.pair .str .unit))) a []]::[tI b]::[tI c]::uS 4 ([tI d]::uS 13 []),nS 22 []⟩ J
def zec(a:Int):State:=⟨uS 6 ([tI a]::uS 14 []),nS 22 []⟩
def zed:State:=⟨uS 21 [],nS 22 []⟩
def zwp:KX R:=(zi 0 (aU UO (vE R) kk (sub [1,1] (cd Tryz.f80)) (aT UO Tryz.f80.results.toList none K)))
theorem ajF(a:ap)(b c d:Int):Sk R kk (k+1) J a b c d=
 ON a b c d (fun a0=>J .ret (zec a0)) (Sk R kk k J) (J (.exit 0) (zed)):=by kernel_rfl
theorem ac8(a:Int):zwp R kk K .ret (zec a)=
 zwq a (fun a0=>K [tI a0] none):=by kernel_rfl
theorem ac9:zwp R kk K (.exit 0) (zed)=
 zwr (fun a0=>K [tI a0] none):=by kernel_rfl
theorem agy{kk:Nat}(hF:kk=ai)(gM:ap)(lW Xd t7:Int):Sk R kk k J gM lW Xd t7=(Ea k gM lW Xd t7).bind fun e=>(Sum.elim (fun(we:Int)=>J .ret (zec we)) (fun(we:Unit)=>J (.exit 0) (zed)) e):=by
 induction k generalizing gM lW Xd t7 with
 |zero=>rfl
 |succ k ih=>
  rw[ajF]
  simp only[Ea,ON,ih,aF]
def Hp:ah:=vE.add 80 [(.sl 107 (.pair (.int .i64) (.pair .str .unit))),(.int .i64),(.int .i64)] (kb (.sl 107 (.pair (.int .i64) (.pair .str .unit))) (.int .i64) (.int .i64) qs (fun _ r K=>K [tI r] none))
theorem YP:aO Tryz.prog Hp:=ko UO Tryz.f80 (fun R kk x0 x1 x2 K=>Sl x0 x1 x2 (Sk R kk kk (zwp R kk K))) YE (ek _ _ _ _) Tryz.func80 (by kernel_rfl) rfl (fun _ _ _ _ _ _ h=>h _ _) (fun _ _ _ _ _ _=>by kernel_rfl) fun R kk e x0 x1 x2 K=>by
 simp only[qs,Sl,zwq,zwr,agy (hF:=e),ac8,ac9,aF,<-e]
def G7:Env:=e0 [(.int .i64),(.int .u8)]
def vF:ah:=Hp.add 158 [(.int .i64),(.int .u8)] (dw (.int .i64) (.int .u8) x9 (fun _ r K=>K [tB r] none))
theorem Y0:aO Tryz.prog vF:=dD G7 Tryz.f158 (fun R kk x0 x1 K=>Wj x0 x1 (fun a0=>K [tB a0] none)) YP (ek _ _ _ _) Tryz.func158 (by kernel_rfl) rfl (fun _ _ _ _ _ _ h=>h _ _) (fun _ _ _ _ _=>by kernel_rfl) fun R kk e x0 x1 K=>by
 simp only[x9,Wj,aF]
def oV:Env:=b8.env (fun i=>bif Nat.beq i 2 then [0,1,5] else []) (fun i=>bif Nat.beq i 2 then [4] else []) [] [(.int .i64),.str]
def Wh(a:Int)(b:ByteArray)(c:Int):Option R:=aB (ev oV (vF R) kk (sub [1,0,1,0,0] (cd Tryz.f110))) [0,1,5] [4] k ⟨[tI a]::[tS b]::uS 3 ([tI c]::uS 13 []),nS 20 []⟩ J
def zp1(a:Int):State:=⟨uS 4 ([tI a]::uS 14 []),nS 20 []⟩
def zp2:State:=⟨uS 19 [],nS 20 []⟩
def Db:KX R:=(zi 0 (aU oV (vF R) kk (sub [1,1] (cd Tryz.f110)) (aT oV Tryz.f110.results.toList none K)))
theorem amF(a:Int)(b:ByteArray)(c:Int):Wh R kk (k+1) J a b c=
 PE a b c (fun a0=>J .ret (zp1 a0)) (Wh R kk k J) (J (.exit 0) (zp2)):=by kernel_rfl
theorem ahA(a:Int):Db R kk K .ret (zp1 a)=
 Dc a (fun a0=>K [tI a0] none):=by kernel_rfl
theorem ahB:Db R kk K (.exit 0) (zp2)=
 Dd (fun a0=>K [tI a0] none):=by kernel_rfl
theorem akz{kk:Nat}(hF:kk=ai)(lK:Int)(kF:ByteArray)(t5:Int):Wh R kk k J lK kF t5=(EE k lK kF t5).bind fun e=>(Sum.elim (fun(we:Int)=>J .ret (zp1 we)) (fun(we:Unit)=>J (.exit 0) (zp2)) e):=by
 induction k generalizing lK kF t5 with
 |zero=>rfl
 |succ k ih=>
  rw[amF]
  simp only[EE,PE,ih,aF]
def Hq:ah:=vF.add 110 [(.int .i64),.str] (dw (.int .i64) .str G6 (fun _ r K=>K [tI r] none))
theorem Zb:aO Tryz.prog Hq:=dD oV Tryz.f110 (fun R kk x0 x1 K=>Wi x0 x1 (Wh R kk kk (Db R kk K))) Y0 (ek _ _ _ _) Tryz.func110 (by kernel_rfl) rfl (fun _ _ _ _ _ _ h=>h _ _) (fun _ _ _ _ _=>by kernel_rfl) fun R kk e x0 x1 K=>by
 simp only[G6,Wi,Dc,Dd,akz (hF:=e),ahA,ahB,aF,<-e]
def Ha:Env:=e0 [(.int .u8)]
def Hr:ah:=Hq.add 207 [(.int .u8)] (cK (.int .u8) yb (fun _ r K=>K [tI r] none))
theorem o14:aO Tryz.prog Hr:=cM Ha Tryz.f207 (fun R kk x0 K=>Dl x0 (fun a0=>K [tI a0] none)) Zb (ek _ _ _ _) Tryz.func207 (by kernel_rfl) rfl (fun _ _ _ _ _ _ h=>h _ _) (fun _ _ _ _=>by kernel_rfl) fun R kk e x0 K=>by
 simp only[yb,Dl,aF]
def Hb:Env:=e0 [.str,(.int .i64)]
def Hs:ah:=Hr.add 159 [.str,(.int .i64)] (dw .str (.int .i64) yc (fun _ r K=>K [tI r.1,tI r.2.1,tI r.2.2] none))
theorem o15:aO Tryz.prog Hs:=dD Hb Tryz.f159 (fun R kk x0 x1 K=>PG x0 x1 (fun a0 a1 a2=>K [tI a0,tI a1,tI a2] none)) o14 (ek _ _ _ _) Tryz.func159 (by kernel_rfl) rfl (fun _ _ _ _ _ _ h=>h _ _) (fun _ _ _ _ _=>by kernel_rfl) fun R kk e x0 x1 K=>by
 simp only[yc,PG,aF]
def Hc:Env:=e0 [.str,(.int .i64)]
def vG:ah:=Hs.add 160 [.str,(.int .i64)] (dw .str (.int .i64) yd (fun _ r K=>K [tI r.1,tI r.2.1,tI r.2.2] none))
theorem o16:aO Tryz.prog vG:=dD Hc Tryz.f160 (fun R kk x0 x1 K=>PH x0 x1 (fun a0 a1 a2=>K [tI a0,tI a1,tI a2] none)) o15 (ek _ _ _ _) Tryz.func160 (by kernel_rfl) rfl (fun _ _ _ _ _ _ h=>h _ _) (fun _ _ _ _ _=>by kernel_rfl) fun R kk e x0 x1 K=>by
 simp only[yd,PH,aF]
def pd:Env:=b8.env (fun i=>bif Nat.beq i 2 then [0,1,2,7] else []) (fun i=>bif Nat.beq i 2 then [6] else []) [] [(.sl 245 (.pair (.int .i64) (.pair .str .unit))),(.int .i64),(.int .i64)]
def Wq(a:ap)(b c d:Int):Option R:=aB (ev pd (vG R) kk (sub [1,0,1,0,0] (cd Tryz.f161))) [0,1,2,7] [6] k ⟨[.ak (.sl 245 (.pair (.int .i64) (.pair .str .unit))) a []]::[tI b]::[tI c]::uS 4 ([tI d]::uS 12 []),nS 21 []⟩ J
def zp9(a:Bool):State:=⟨uS 6 ([tB a]::uS 13 []),nS 21 []⟩
def zpa:State:=⟨uS 20 [],nS 21 []⟩
def Dn:KX R:=(zi 0 (aU pd (vG R) kk (sub [1,1] (cd Tryz.f161)) (aT pd Tryz.f161.results.toList none K)))
theorem amK(a:ap)(b c d:Int):Wq R kk (k+1) J a b c d=
 PK a b c d (fun a0=>J .ret (zp9 a0)) (Wq R kk k J) (J (.exit 0) (zpa)):=by kernel_rfl
theorem ahI(a:Bool):Dn R kk K .ret (zp9 a)=
 z156 a (fun a0=>K [tB a0] none):=by kernel_rfl
theorem ahJ:Dn R kk K (.exit 0) (zpa)=
 z157 (fun a0=>K [tB a0] none):=by kernel_rfl
theorem akE{kk:Nat}(hF:kk=ai)(gM:ap)(lW uh t7:Int):Wq R kk k J gM lW uh t7=(EG k gM lW uh t7).bind fun e=>(Sum.elim (fun(we:Bool)=>J .ret (zp9 we)) (fun(we:Unit)=>J (.exit 0) (zpa)) e):=by
 induction k generalizing gM lW uh t7 with
 |zero=>rfl
 |succ k ih=>
  rw[amK]
  simp only[EG,PK,ih,aF]
def vH:ah:=vG.add 161 [(.sl 245 (.pair (.int .i64) (.pair .str .unit))),(.int .i64),(.int .i64)] (kb (.sl 245 (.pair (.int .i64) (.pair .str .unit))) (.int .i64) (.int .i64) Hd (fun _ r K=>K [tB r] none))
theorem o17:aO Tryz.prog vH:=ko pd Tryz.f161 (fun R kk x0 x1 x2 K=>Wr x0 x1 x2 (Wq R kk kk (Dn R kk K))) o16 (ek _ _ _ _) Tryz.func161 (by kernel_rfl) rfl (fun _ _ _ _ _ _ h=>h _ _) (fun _ _ _ _ _ _=>by kernel_rfl) fun R kk e x0 x1 x2 K=>by
 simp only[Hd,Wr,z156,z157,akE (hF:=e),ahI,ahJ,aF,<-e]
def pc:Env:=b8.env (fun i=>bif Nat.beq i 3 then [0,5,6] else []) (fun i=>bif Nat.beq i 3 then [2,3,4,5] else []) [] [.str]
def Wp(a:ByteArray)(b:ap)(c:Int):Option R:=aB (ev pc (vH R) kk (sub [1,1,1,0,0,0] (cd Tryz.f111))) [0,5,6] [2,3,4,5] k ⟨[tS a]::uS 4 ([.ak (.sl 245 (.pair (.int .i64) (.pair .str .unit))) b [[]]]::[tI c]::uS 61 []),nS 69 []⟩ J
def zp7(a:ap)(b c:Int)(d:ap):State:=⟨uS 2 ([.ak (.sl 245 (.pair (.int .i64) (.pair .str .unit))) a [[]]]::[tI b]::[tI c]::[.ak (.sl 245 (.pair (.int .i64) (.pair .str .unit))) d [[]]]::uS 62 []),nS 69 []⟩
def zp8(a:ap):State:=⟨uS 5 ([.ak (.sl 245 (.pair (.int .i64) (.pair .str .unit))) a [[]]]::uS 62 []),nS 69 []⟩
def z152:KX R:=(zi 0 (aU pc (vH R) kk (sub [1,1,1,1] (cd Tryz.f111)) (aT pc Tryz.f111.results.toList none K)))
theorem amJ(a:ByteArray)(b:ap)(c:Int):Wp R kk (k+1) J a b c=
 PJ a b c (fun a0 a1 a2 a3=>J .ret (zp7 a0 a1 a2 a3)) (Wp R kk k J) (fun a0=>J (.exit 0) (zp8 a0)):=by kernel_rfl
theorem ahG(a:ap)(b c:Int)(d:ap):z152 R kk K .ret (zp7 a b c d)=
 Dm a b c d (fun a0 a1 a2=>K [.ak (.sl 245 (.pair (.int .i64) (.pair .str .unit))) a0 [[]],tI a1,tI a2] none):=by kernel_rfl
theorem ahH(a:ap):z152 R kk K (.exit 0) (zp8 a)=
 z154 a (fun a0 a1 a2=>K [.ak (.sl 245 (.pair (.int .i64) (.pair .str .unit))) a0 [],tI a1,tI a2] none):=by kernel_rfl
theorem akD{kk:Nat}(hF:kk=ai)(nY:ByteArray)(t5:ap)(t6:Int):Wp R kk k J nY t5 t6=(AW k nY t5 t6).bind fun e=>(Sum.elim (fun(we:qE)=>J .ret (zp7 we.1 we.2.1 we.2.2.1 we.2.2.2)) (fun(we:ap)=>J (.exit 0) (zp8 we)) e):=by
 induction k generalizing nY t5 t6 with
 |zero=>rfl
 |succ k ih=>
  rw[amJ]
  simp only[AW,PJ,ih,aF]
def Ht:ah:=vH.add 111 [.str] (cK .str ye (fun _ r K=>(Sum.elim (fun(wr:jf)=>K [.ak (.sl 245 (.pair (.int .i64) (.pair .str .unit))) wr.1 [[]],tI wr.2.1,tI wr.2.2] none) (fun(wr:jf)=>K [.ak (.sl 245 (.pair (.int .i64) (.pair .str .unit))) wr.1 [],tI wr.2.1,tI wr.2.2] none) r)))
theorem o18:aO Tryz.prog Ht:=cM pc Tryz.f111 (fun R kk x0 K=>PI x0 (Wp R kk kk (z152 R kk K))) o17 (ek _ _ _ _) Tryz.func111 (by kernel_rfl) rfl (fun _ _ _ _ _ _ h=>Pp (fun _=>h _ _) (fun _=>h _ _)) (fun _ _ _ _=>by kernel_rfl) fun R kk e x0 K=>by
 simp only[ye,PI,Dm,z154,akD (hF:=e),ahG,ahH,aF,<-e]
def Hf:Env:=e0 [cH,.str]
def qC:ah:=Ht.add 81 [cH,.str] (dw cH .str mB (fun _ r K=>K [tI r] none))
theorem o19:aO Tryz.prog qC:=dD Hf Tryz.f81 (fun R kk x0 x1 K=>FZ x0 x1 (fun a0=>K [tI a0] none)) o18 (ek _ _ _ _) Tryz.func81 (by kernel_rfl) rfl (fun _ _ _ _ _ _ h=>h _ _) (fun _ _ _ _ _=>by kernel_rfl) fun R kk e x0 x1 K=>by
 simp only[mB,FZ,aF]
def Et:Env:=b8.env (fun i=>bif Nat.beq i 7 then [1,5,6] else bif Nat.beq i 16 then [1,5,7] else []) (fun i=>bif Nat.beq i 7 then [1,2,3,4,5] else bif Nat.beq i 16 then [1,2,3,4] else []) [] [cr]
def Sc(a b:Int)(c:au):Option R:=aB (ev Et (qC R) kk (sub [1,1,1,1,0,1,0,0] (cd Tryz.f60))) [1,5,6] [1,2,3,4,5] k ⟨uS 1 ([.ptr 2 cr []]::uS 3 ([tI a]::[tI b]::uS 109 [])),nS 2 ((some ⟨cr,c,[]⟩)::nS 114 [])⟩ J
def ze6(a b c d:Int)(e:au):State:=⟨uS 1 ([.ptr 2 cr []]::[tI a]::[tI b]::[tI c]::[tI d]::uS 110 []),nS 2 ((some ⟨cr,e,[]⟩)::nS 114 [])⟩
def ze7(a:Int)(b:au):State:=⟨uS 1 ([.ptr 2 cr []]::uS 3 ([tI a]::uS 110 [])),nS 2 ((some ⟨cr,b,[]⟩)::nS 114 [])⟩
def zwh:KX R:=(zi 0 (aU Et (qC R) kk (sub [1,1,1,1,1] (cd Tryz.f60)) (aT Et Tryz.f60.results.toList none K)))
def Sd(a b:Int)(c:au):Option R:=aB (ev Et (qC R) kk (sub [1,1,1,1,1,0,1,0,0] (cd Tryz.f60))) [1,5,7] [1,2,3,4] k ⟨uS 1 ([.ptr 2 cr []]::uS 3 ([tI a]::uS 1 ([tI b]::uS 108 []))),nS 2 ((some ⟨cr,c,[]⟩)::nS 114 [])⟩ J
def ze8(a b c:Int)(d:au):State:=⟨uS 1 ([.ptr 2 cr []]::[tI a]::[tI b]::[tI c]::uS 111 []),nS 2 ((some ⟨cr,d,[]⟩)::nS 114 [])⟩
def ze9(a:au):State:=⟨uS 1 ([.ptr 2 cr []]::uS 114 []),nS 2 ((some ⟨cr,a,[]⟩)::nS 114 [])⟩
def zwi:KX R:=(zi 2 (aU Et (qC R) kk (sub [1,1,1,1,1,1] (cd Tryz.f60)) (aT Et Tryz.f60.results.toList none K)))
theorem ajC(a b:Int)(c:au):Sc R kk (k+1) J a b c=
 OK a b c (fun a0 a1 a2 a3 a4=>J .ret (ze6 a0 a1 a2 a3 a4)) (Sc R kk k J) (fun a0 a1=>J (.exit 0) (ze7 a0 a1)):=by kernel_rfl
theorem ac2(a b c d:Int)(e:au):zwh R kk K .ret (ze6 a b c d e)=
 zwj a b c d e (fun a0 a1 a2=>K [tI a0,tI a1,tI a2] none):=by kernel_rfl
theorem ac3(a:Int)(b:au):zwh R kk K (.exit 0) (ze7 a b)=
 Sf a b (Sd R kk kk (zwi R kk K)):=by kernel_rfl
theorem ajD(a b:Int)(c:au):Sd R kk (k+1) J a b c=
 OL a b c (fun a0 a1 a2 a3=>J .ret (ze8 a0 a1 a2 a3)) (Sd R kk k J) (fun a0=>J (.exit 2) (ze9 a0)):=by kernel_rfl
theorem ac4(a b c:Int)(d:au):zwi R kk K .ret (ze8 a b c d)=
 zwk a b c d (fun a0 a1 a2=>K [tI a0,tI a1,tI a2] none):=by kernel_rfl
theorem ac5(a:au):zwi R kk K (.exit 2) (ze9 a)=
 Sg a (fun a0 a1 a2=>K [tI a0,tI a1,tI a2] none):=by kernel_rfl
theorem agv{kk:Nat}(hF:kk=ai)(t5 t6:Int)(cW:au):Sc R kk k J t5 t6 cW=(D8 k t5 t6 cW).bind fun e=>(Sum.elim (fun(we:(Int×Int×Int×Int×au))=>J .ret (ze6 we.1 we.2.1 we.2.2.1 we.2.2.2.1 we.2.2.2.2)) (fun(we:(Int×au))=>J (.exit 0) (ze7 we.1 we.2)) e):=by
 induction k generalizing t5 t6 cW with
 |zero=>rfl
 |succ k ih=>
  rw[ajC]
  simp only[D8,OK,ih,aF]
theorem agw{kk:Nat}(hF:kk=ai)(t5 t7:Int)(cW:au):Sd R kk k J t5 t7 cW=(D9 k t5 t7 cW).bind fun e=>(Sum.elim (fun(we:(Int×Int×Int×au))=>J .ret (ze8 we.1 we.2.1 we.2.2.1 we.2.2.2)) (fun(we:au)=>J (.exit 2) (ze9 we)) e):=by
 induction k generalizing t5 t7 cW with
 |zero=>rfl
 |succ k ih=>
  rw[ajD]
  simp only[D9,OL,ih,aF]
def Hu:ah:=qC.add 60 [cr] (cK cr sk (fun _ r K=>K [tI r.1,tI r.2.1,tI r.2.2] none))
theorem o20:aO Tryz.prog Hu:=cM Et Tryz.f60 (fun R kk x0 K=>Se x0 (fun a0 a1 a2=>K [tI a0,tI a1,tI a2] none) (Sc R kk kk (zwh R kk K))) o19 (ek _ _ _ _) Tryz.func60 (by kernel_rfl) rfl (fun _ _ _ _ _ _ h=>h _ _) (fun _ _ _ _=>by kernel_rfl) fun R kk e x0 K=>by
 simp only[sk,Se,zwj,Sf,zwk,Sg,agv (hF:=e),agw (hF:=e),ac2,ac3,ac4,ac5,aF,<-e]
def G4:Env:=e0 [(.int .u8)]
def vI:ah:=Hu.add 208 [(.int .u8)] (cK (.int .u8) G3 (fun _ r K=>K [tB r] none))
theorem o21:aO Tryz.prog vI:=cM G4 Tryz.f208 (fun R kk x0 K=>Wc x0 (fun a0=>K [tB a0] none)) o20 (ek _ _ _ _) Tryz.func208 (by kernel_rfl) rfl (fun _ _ _ _ _ _ h=>h _ _) (fun _ _ _ _=>by kernel_rfl) fun R kk e x0 K=>by
 simp only[G3,Wc,aF]
def oQ:Env:=b8.env (fun i=>bif Nat.beq i 2 then [0,3] else []) (fun i=>bif Nat.beq i 2 then [2] else []) [] [.str]
def V9(a:ByteArray)(b:Int):Option R:=aB (ev oQ (vI R) kk (sub [1,0,1,0,0] (cd Tryz.f162))) [0,3] [2] k ⟨[tS a]::uS 2 ([tI b]::uS 11 []),nS 16 []⟩ J
def zoy(a:Bool):State:=⟨uS 2 ([tB a]::uS 12 []),nS 16 []⟩
def zoz:State:=⟨uS 15 [],nS 16 []⟩
def C7:KX R:=(zi 0 (aU oQ (vI R) kk (sub [1,1] (cd Tryz.f162)) (aT oQ Tryz.f162.results.toList none K)))
theorem amD(a:ByteArray)(b:Int):V9 R kk (k+1) J a b=
 Wb a b (fun a0=>J .ret (zoy a0)) (V9 R kk k J) (J (.exit 0) (zoz)):=by kernel_rfl
theorem ahx(a:Bool):C7 R kk K .ret (zoy a)=
 C8 a (fun a0=>K [tB a0] none):=by kernel_rfl
theorem ahy:C7 R kk K (.exit 0) (zoz)=
 C9 (fun a0=>K [tB a0] none):=by kernel_rfl
theorem akx{kk:Nat}(hF:kk=ai)(iF:ByteArray)(t3:Int):V9 R kk k J iF t3=(FX k iF t3).bind fun e=>(Sum.elim (fun(we:Bool)=>J .ret (zoy we)) (fun(we:Unit)=>J (.exit 0) (zoz)) e):=by
 induction k generalizing iF t3 with
 |zero=>rfl
 |succ k ih=>
  rw[amD]
  simp only[FX,Wb,ih,aF]
def Hv:ah:=vI.add 162 [.str] (cK .str ER (fun _ r K=>K [tB r] none))
theorem o22:aO Tryz.prog Hv:=cM oQ Tryz.f162 (fun R kk x0 K=>Wa x0 (V9 R kk kk (C7 R kk K))) o21 (ek _ _ _ _) Tryz.func162 (by kernel_rfl) rfl (fun _ _ _ _ _ _ h=>h _ _) (fun _ _ _ _=>by kernel_rfl) fun R kk e x0 K=>by
 simp only[ER,Wa,C8,C9,akx (hF:=e),ahx,ahy,aF,<-e]
def alC:Env:=e0 [.str]
def Hw:ah:=Hv.add 112 [.str] (cK .str rY (fun _ r K=>K [tB r] none))
theorem o23:aO Tryz.prog Hw:=cM alC Tryz.f112 (fun R kk x0 K=>RH x0 (fun a0=>K [tB a0] none)) o22 (ek _ _ _ _) Tryz.func112 (by kernel_rfl) rfl (fun _ _ _ _ _ _ h=>h _ _) (fun _ _ _ _=>by kernel_rfl) fun R kk e x0 K=>by
 simp only[rY,RH,aF]
def alH:Env:=e0 [.str,(.int .i64)]
def vJ:ah:=Hw.add 82 [.str,(.int .i64)] (dw .str (.int .i64) qq (fun _ r K=>K [tB r] none))
theorem o24:aO Tryz.prog vJ:=dD alH Tryz.f82 (fun R kk x0 x1 K=>Sb x0 x1 (fun a0=>K [tB a0] none)) o23 (ek _ _ _ _) Tryz.func82 (by kernel_rfl) rfl (fun _ _ _ _ _ _ h=>h _ _) (fun _ _ _ _ _=>by kernel_rfl) fun R kk e x0 x1 K=>by
 simp only[qq,Sb,aF]
def oT:Env:=b8.env (fun i=>bif Nat.beq i 5 then [0,4,5] else []) (fun i=>bif Nat.beq i 5 then [4] else []) [] [.str]
def Wd(a:ByteArray)(b c:Int):Option R:=aB (ev oT (vJ R) kk (sub [1,1,1,0,1,0,0] (cd Tryz.f113))) [0,4,5] [4] k ⟨[tS a]::uS 3 ([tI b]::[tI c]::uS 28 []),nS 35 []⟩ J
def zp0(a:Int):State:=⟨uS 4 ([tI a]::uS 29 []),nS 35 []⟩
def NA:KX R:=(zi 0 (aU oT (vJ R) kk (sub [1,1,1,1] (cd Tryz.f113)) (aT oT Tryz.f113.results.toList none K)))
theorem amE(a:ByteArray)(b c:Int):Wd R kk (k+1) J a b c=
 Wg a b c (Wd R kk k J) (fun a0=>J (.exit 0) (zp0 a0)):=by kernel_rfl
theorem ahz(a:Int):NA R kk K (.exit 0) (zp0 a)=
 Da a (fun a0 a1=>K [tI a0,tB a1] none):=by kernel_rfl
theorem aky{kk:Nat}(hF:kk=ai)(iF:ByteArray)(t4 t5:Int):Wd R kk k J iF t4 t5=(FY k iF t4 t5).bind fun e=>J (.exit 0) (zp0 e):=by
 induction k generalizing iF t4 t5 with
 |zero=>rfl
 |succ k ih=>
  rw[amE]
  simp only[FY,Wg,ih,aF]
def Hx:ah:=vJ.add 113 [.str] (cK .str G5 (fun _ r K=>K [tI r.1,tB r.2] none))
theorem o25:aO Tryz.prog Hx:=cM oT Tryz.f113 (fun R kk x0 K=>We x0 (fun a0 a1=>K [tI a0,tB a1] none) (Wd R kk kk (NA R kk K))) o24 (ek _ _ _ _) Tryz.func113 (by kernel_rfl) rfl (fun _ _ _ _ _ _ h=>h _ _) (fun _ _ _ _=>by kernel_rfl) fun R kk e x0 K=>by
 simp only[G5,We,Da,aky (hF:=e),ahz,aF,<-e]
def Ho:Env:=e0 [.str]
def vK:ah:=Hx.add 83 [.str] (cK .str ET (fun _ r K=>K [tB r] none))
theorem o26:aO Tryz.prog vK:=cM Ho Tryz.f83 (fun R kk x0 K=>WC x0 (fun a0=>K [tB a0] none)) o25 (ek _ _ _ _) Tryz.func83 (by kernel_rfl) rfl (fun _ _ _ _ _ _ h=>h _ _) (fun _ _ _ _=>by kernel_rfl) fun R kk e x0 K=>by
 simp only[ET,WC,aF]
def UI:Env:=b8.env (fun i=>bif Nat.beq i 2 then [0,1,2,7] else []) (fun i=>bif Nat.beq i 2 then [6] else []) [] [(.sl 109 (.pair .str (.pair .str .unit))),(.int .i64),.str]
def RO(a:aN)(b:Int)(c:ByteArray)(d:Int):Option R:=aB (ev UI (vK R) kk (sub [1,0,1,0,0] (cd Tryz.f114))) [0,1,2,7] [6] k ⟨[.ak (.sl 109 (.pair .str (.pair .str .unit))) a []]::[tI b]::[tS c]::uS 4 ([tI d]::uS 13 []),nS 22 []⟩ J
def zdr(a:Int):State:=⟨uS 6 ([tI a]::uS 14 []),nS 22 []⟩
def zds:State:=⟨uS 21 [],nS 22 []⟩
def zvm:KX R:=(zi 0 (aU UI (vK R) kk (sub [1,1] (cd Tryz.f114)) (aT UI Tryz.f114.results.toList none K)))
theorem ajt(a:aN)(b:Int)(c:ByteArray)(d:Int):RO R kk (k+1) J a b c d=
 Oz a b c d (fun a0=>J .ret (zdr a0)) (RO R kk k J) (J (.exit 0) (zds)):=by kernel_rfl
theorem acG(a:Int):zvm R kk K .ret (zdr a)=
 zvn a (fun a0=>K [tI a0] none):=by kernel_rfl
theorem acH:zvm R kk K (.exit 0) (zds)=
 zvo (fun a0=>K [tI a0] none):=by kernel_rfl
theorem agb{kk:Nat}(hF:kk=ai)(gM:aN)(lW:Int)(n0:ByteArray)(t7:Int):RO R kk k J gM lW n0 t7=(D3 k gM lW n0 t7).bind fun e=>(Sum.elim (fun(we:Int)=>J .ret (zdr we)) (fun(we:Unit)=>J (.exit 0) (zds)) e):=by
 induction k generalizing gM lW n0 t7 with
 |zero=>rfl
 |succ k ih=>
  rw[ajt]
  simp only[D3,Oz,ih,aF]
def Hy:ah:=vK.add 114 [(.sl 109 (.pair .str (.pair .str .unit))),(.int .i64),.str] (kb (.sl 109 (.pair .str (.pair .str .unit))) (.int .i64) .str qo (fun _ r K=>K [tI r] none))
theorem o27:aO Tryz.prog Hy:=ko UI Tryz.f114 (fun R kk x0 x1 x2 K=>RP x0 x1 x2 (RO R kk kk (zvm R kk K))) o26 (ek _ _ _ _) Tryz.func114 (by kernel_rfl) rfl (fun _ _ _ _ _ _ h=>h _ _) (fun _ _ _ _ _ _=>by kernel_rfl) fun R kk e x0 x1 x2 K=>by
 simp only[qo,RP,zvn,zvo,agb (hF:=e),acG,acH,aF,<-e]
def alD:Env:=e0 [(.sl 109 (.pair .str (.pair .str .unit))),.str]
def vL:ah:=Hy.add 84 [(.sl 109 (.pair .str (.pair .str .unit))),.str] (dw (.sl 109 (.pair .str (.pair .str .unit))) .str rZ (fun _ r K=>K [tS r.1,tB r.2] none))
theorem o28:aO Tryz.prog vL:=dD alD Tryz.f84 (fun R kk x0 x1 K=>RI x0 x1 (fun a0 a1=>K [tS a0,tB a1] none)) o27 (ek _ _ _ _) Tryz.func84 (by kernel_rfl) rfl (fun _ _ _ _ _ _ h=>h _ _) (fun _ _ _ _ _=>by kernel_rfl) fun R kk e x0 x1 K=>by
 simp only[rZ,RI,aF]
def oW:Env:=b8.env (fun i=>bif Nat.beq i 4 then [0,1,5] else []) (fun i=>bif Nat.beq i 4 then [4] else []) [] [(.int .i64),(.int .i64)]
def Wk(a b c:Int):Option R:=aB (ev oW (vL R) kk (sub [1,1,0,1,0,0] (cd Tryz.f163))) [0,1,5] [4] k ⟨[tI a]::[tI b]::uS 3 ([tI c]::uS 29 []),nS 36 []⟩ J
def zp3(a:Bool):State:=⟨uS 4 ([tB a]::uS 30 []),nS 36 []⟩
def zp4:State:=⟨uS 35 [],nS 36 []⟩
def De:KX R:=(zi 0 (aU oW (vL R) kk (sub [1,1,1] (cd Tryz.f163)) (aT oW Tryz.f163.results.toList none K)))
theorem amG(a b c:Int):Wk R kk (k+1) J a b c=
 Df a b c (fun a0=>J .ret (zp3 a0)) (Wk R kk k J) (J (.exit 0) (zp4)):=by kernel_rfl
theorem ahC(a:Bool):De R kk K .ret (zp3 a)=
 Dg a (fun a0=>K [tB a0] none):=by kernel_rfl
theorem ahD:De R kk K (.exit 0) (zp4)=
 Dh (fun a0=>K [tB a0] none):=by kernel_rfl
theorem akA{kk:Nat}(hF:kk=ai)(lH s8 t5:Int):Wk R kk k J lH s8 t5=(Wl k lH s8 t5).bind fun e=>(Sum.elim (fun(we:Bool)=>J .ret (zp3 we)) (fun(we:Unit)=>J (.exit 0) (zp4)) e):=by
 induction k generalizing lH s8 t5 with
 |zero=>rfl
 |succ k ih=>
  rw[amG]
  simp only[Wl,Df,ih,aF]
def Hz:ah:=vL.add 163 [(.int .i64),(.int .i64)] (dw (.int .i64) (.int .i64) ES (fun _ r K=>K [tB r] none))
theorem o29:aO Tryz.prog Hz:=dD oW Tryz.f163 (fun R kk x0 x1 K=>Wm x0 x1 (fun a0=>K [tB a0] none) (Wk R kk kk (De R kk K))) o28 (ek _ _ _ _) Tryz.func163 (by kernel_rfl) rfl (fun _ _ _ _ _ _ h=>h _ _) (fun _ _ _ _ _=>by kernel_rfl) fun R kk e x0 x1 K=>by
 simp only[ES,Wm,Dg,Dh,akA (hF:=e),ahC,ahD,aF,<-e]
def Hg:Env:=e0 [cH,cH]
def vM:ah:=Hz.add 115 [cH,cH] (dw cH cH uH (fun _ r K=>K [tB r] none))
theorem o30:aO Tryz.prog vM:=dD Hg Tryz.f115 (fun R kk x0 x1 K=>F0 x0 x1 (fun a0=>K [tB a0] none)) o29 (ek _ _ _ _) Tryz.func115 (by kernel_rfl) rfl (fun _ _ _ _ _ _ h=>h _ _) (fun _ _ _ _ _=>by kernel_rfl) fun R kk e x0 x1 K=>by
 simp only[uH,F0,aF]
def UG:Env:=b8.env (fun i=>bif Nat.beq i 4 then [0,4] else []) (fun i=>bif Nat.beq i 4 then [2,3] else []) [] [(.sl 109 (.pair .str (.pair .str .unit)))]
def RJ(a:aN)(b:Int):Option R:=aB (ev UG (vM R) kk (sub [1,1,0,1,0,0] (cd Tryz.f116))) [0,4] [2,3] k ⟨[.ak (.sl 109 (.pair .str (.pair .str .unit))) a []]::uS 3 ([tI b]::uS 19 []),nS 25 []⟩ J
def zdo(a b:Int):State:=⟨uS 2 ([tI a]::[tI b]::uS 20 []),nS 25 []⟩
def zdp:State:=⟨uS 24 [],nS 25 []⟩
def zvg:KX R:=(zi 0 (aU UG (vM R) kk (sub [1,1,1] (cd Tryz.f116)) (aT UG Tryz.f116.results.toList none K)))
theorem ajr(a:aN)(b:Int):RJ R kk (k+1) J a b=
 Oy a b (fun a0 a1=>J .ret (zdo a0 a1)) (RJ R kk k J) (J (.exit 0) (zdp)):=by kernel_rfl
theorem acD(a b:Int):zvg R kk K .ret (zdo a b)=
 zvh a b (fun a0 a1=>K [tI a0,tI a1] none):=by kernel_rfl
theorem acE:zvg R kk K (.exit 0) (zdp)=
 zvi (fun a0 a1=>K [tI a0,tI a1] none):=by kernel_rfl
theorem af9{kk:Nat}(hF:kk=ai)(gM:aN)(t4:Int):RJ R kk k J gM t4=(D2 k gM t4).bind fun e=>(Sum.elim (fun(we:(Int×Int))=>J .ret (zdo we.1 we.2)) (fun(we:Unit)=>J (.exit 0) (zdp)) e):=by
 induction k generalizing gM t4 with
 |zero=>rfl
 |succ k ih=>
  rw[ajr]
  simp only[D2,Oy,ih,aF]
def cV:ah:=vM.add 116 [(.sl 109 (.pair .str (.pair .str .unit)))] (cK (.sl 109 (.pair .str (.pair .str .unit))) sc (fun _ r K=>K [tI r.1,tI r.2] none))
theorem o31:aO Tryz.prog cV:=cM UG Tryz.f116 (fun R kk x0 K=>RK x0 (fun a0 a1=>K [tI a0,tI a1] none) (RJ R kk kk (zvg R kk K))) o30 (ek _ _ _ _) Tryz.func116 (by kernel_rfl) rfl (fun _ _ _ _ _ _ h=>h _ _) (fun _ _ _ _=>by kernel_rfl) fun R kk e x0 K=>by
 simp only[sc,RK,zvh,zvi,af9 (hF:=e),acD,acE,aF,<-e]
def zt:Env:={b8.env (fun i=>bif Nat.beq i 27 then [3,4,5,7,8,13] else []) (fun i=>bif Nat.beq i 27 then [6] else []) [] [cw,aK,aK] with join:=fun i=>bif Nat.beq i 2 then some [3,4,5,23] else bif Nat.beq i 3 then some [3,4,5] else bif Nat.beq i 6 then some [3,4,5,7,8,48] else bif Nat.beq i 7 then some [3,4,5,7,8] else bif Nat.beq i 8 then some [3,4,5,7,8,65] else bif Nat.beq i 9 then some [3,4,5,7,8] else bif Nat.beq i 10 then some [3,4,5,7,8,84] else bif Nat.beq i 11 then some [3,4,5,7,8] else bif Nat.beq i 35 then some [] else bif Nat.beq i 21 then some [140] else bif Nat.beq i 25 then some [3,4,5,7,8,156] else bif Nat.beq i 26 then some [3,4,5,7,8] else bif Nat.beq i 29 then some [3,4,5,7,8,13] else bif Nat.beq i 32 then some [3,4,5,7,8,13] else bif Nat.beq i 28 then some [3,4,5,7,8,13] else none}
def Mp(a:Bool)(b:aE)(c d:af):Option R:=ev zt (cV R) kk (sub [1,0,1] (cd Tryz.f85)) ⟨uS 3 ([.ptr 4 cw []]::[.ptr 5 aK []]::[.ptr 6 aK []]::uS 17 ([tB a]::uS 170 [])),nS 4 ((some ⟨cw,b,[]⟩)::(some ⟨aK,c,[]⟩)::(some ⟨aK,d,[]⟩)::nS 188 [])⟩ (aU zt (cV R) kk (sub [1,1] (cd Tryz.f85)) (aT zt Tryz.f85.results.toList none K))
def Mq(a:aE)(b c:af):Option R:=ev zt (cV R) kk (sub [1,1] (cd Tryz.f85)) ⟨uS 3 ([.ptr 4 cw []]::[.ptr 5 aK []]::[.ptr 6 aK []]::uS 188 []),nS 4 ((some ⟨cw,a,[]⟩)::(some ⟨aK,b,[]⟩)::(some ⟨aK,c,[]⟩)::nS 188 [])⟩ (aT zt Tryz.f85.results.toList none K)
def Mr(a b:Int)(c:Bool)(d:aE)(e f:af):Option R:=ev zt (cV R) kk (sub [1,1,1,1,0,1] (cd Tryz.f85)) ⟨uS 3 ([.ptr 4 cw []]::[.ptr 5 aK []]::[.ptr 6 aK []]::uS 1 ([tI a]::[tI b]::uS 39 ([tB c]::uS 145 []))),nS 4 ((some ⟨cw,d,[]⟩)::(some ⟨aK,e,[]⟩)::(some ⟨aK,f,[]⟩)::nS 188 [])⟩ (aU zt (cV R) kk (sub [1,1,1,1,1] (cd Tryz.f85)) (aT zt Tryz.f85.results.toList none K))
def Ms(a b:Int)(c:aE)(d e:af):Option R:=ev zt (cV R) kk (sub [1,1,1,1,1] (cd Tryz.f85)) ⟨uS 3 ([.ptr 4 cw []]::[.ptr 5 aK []]::[.ptr 6 aK []]::uS 1 ([tI a]::[tI b]::uS 185 [])),nS 4 ((some ⟨cw,c,[]⟩)::(some ⟨aK,d,[]⟩)::(some ⟨aK,e,[]⟩)::nS 188 [])⟩ (aT zt Tryz.f85.results.toList none K)
def Mt(a b:Int)(c:Bool)(d:aE)(e f:af):Option R:=ev zt (cV R) kk (sub [1,1,1,1,1,0,1] (cd Tryz.f85)) ⟨uS 3 ([.ptr 4 cw []]::[.ptr 5 aK []]::[.ptr 6 aK []]::uS 1 ([tI a]::[tI b]::uS 56 ([tB c]::uS 128 []))),nS 4 ((some ⟨cw,d,[]⟩)::(some ⟨aK,e,[]⟩)::(some ⟨aK,f,[]⟩)::nS 188 [])⟩ (aU zt (cV R) kk (sub [1,1,1,1,1,1] (cd Tryz.f85)) (aT zt Tryz.f85.results.toList none K))
def Mu(a b:Int)(c:aE)(d e:af):Option R:=ev zt (cV R) kk (sub [1,1,1,1,1,1] (cd Tryz.f85)) ⟨uS 3 ([.ptr 4 cw []]::[.ptr 5 aK []]::[.ptr 6 aK []]::uS 1 ([tI a]::[tI b]::uS 185 [])),nS 4 ((some ⟨cw,c,[]⟩)::(some ⟨aK,d,[]⟩)::(some ⟨aK,e,[]⟩)::nS 188 [])⟩ (aT zt Tryz.f85.results.toList none K)
def Mv(a b:Int)(c:Bool)(d:aE)(e f:af):Option R:=ev zt (cV R) kk (sub [1,1,1,1,1,1,0,1] (cd Tryz.f85)) ⟨uS 3 ([.ptr 4 cw []]::[.ptr 5 aK []]::[.ptr 6 aK []]::uS 1 ([tI a]::[tI b]::uS 75 ([tB c]::uS 109 []))),nS 4 ((some ⟨cw,d,[]⟩)::(some ⟨aK,e,[]⟩)::(some ⟨aK,f,[]⟩)::nS 188 [])⟩ (aU zt (cV R) kk (sub [1,1,1,1,1,1,1] (cd Tryz.f85)) (aT zt Tryz.f85.results.toList none K))
def Mw(a b:Int)(c:aE)(d e:af):Option R:=ev zt (cV R) kk (sub [1,1,1,1,1,1,1] (cd Tryz.f85)) ⟨uS 3 ([.ptr 4 cw []]::[.ptr 5 aK []]::[.ptr 6 aK []]::uS 1 ([tI a]::[tI b]::uS 185 [])),nS 4 ((some ⟨cw,c,[]⟩)::(some ⟨aK,d,[]⟩)::(some ⟨aK,e,[]⟩)::nS 188 [])⟩ (aT zt Tryz.f85.results.toList none K)
def zip:Option R:=ev zt (cV R) kk (sub [1,1,1,1,1,1,1,1] (cd Tryz.f85)) ⟨uS 194 [],nS 195 []⟩ (aT zt Tryz.f85.results.toList none K)
def Mx(a:Bool):Option R:=ev zt (cV R) kk (sub [1,1,1,1,1,1,1,0,1,0,1,1,1,1,1,0,1,1,1] (cd Tryz.f85)) ⟨uS 140 ([tB a]::uS 53 []),nS 195 []⟩ (zi 0 (aU zt (cV R) kk (sub [1,1,1,1,1,1,1,1] (cd Tryz.f85)) (aT zt Tryz.f85.results.toList none K)))
def Lk(a b:Int)(c:Bool)(d:aE)(e f:af):Option R:=ev zt (cV R) kk (sub [1,1,1,1,1,1,1,0,1,0,1,1,1,1,1,1,1,0,0,1,1] (cd Tryz.f85)) ⟨uS 3 ([.ptr 4 cw []]::[.ptr 5 aK []]::[.ptr 6 aK []]::uS 1 ([tI a]::[tI b]::uS 147 ([tB c]::uS 37 []))),nS 4 ((some ⟨cw,d,[]⟩)::(some ⟨aK,e,[]⟩)::(some ⟨aK,f,[]⟩)::nS 188 [])⟩ (aU zt (cV R) kk (sub [1,1,1,1,1,1,1,0,1,0,1,1,1,1,1,1,1,0,1] (cd Tryz.f85)) (zi 0 (aU zt (cV R) kk (sub [1,1,1,1,1,1,1,1] (cd Tryz.f85)) (aT zt Tryz.f85.results.toList none K))))
def Ll(a b:Int)(c:aE)(d e:af):Option R:=ev zt (cV R) kk (sub [1,1,1,1,1,1,1,0,1,0,1,1,1,1,1,1,1,0,1] (cd Tryz.f85)) ⟨uS 3 ([.ptr 4 cw []]::[.ptr 5 aK []]::[.ptr 6 aK []]::uS 1 ([tI a]::[tI b]::uS 185 [])),nS 4 ((some ⟨cw,c,[]⟩)::(some ⟨aK,d,[]⟩)::(some ⟨aK,e,[]⟩)::nS 188 [])⟩ (zi 0 (aU zt (cV R) kk (sub [1,1,1,1,1,1,1,1] (cd Tryz.f85)) (aT zt Tryz.f85.results.toList none K)))
def Lm(a b c:Int)(d:aE)(e f:af):Option R:=ev zt (cV R) kk (sub [1,1,1,1,1,1,1,0,1,0,1,1,1,1,1,1,1,0,1,1,0,0,1] (cd Tryz.f85)) ⟨uS 3 ([.ptr 4 cw []]::[.ptr 5 aK []]::[.ptr 6 aK []]::uS 1 ([tI a]::[tI b]::uS 4 ([tI c]::uS 180 []))),nS 4 ((some ⟨cw,d,[]⟩)::(some ⟨aK,e,[]⟩)::(some ⟨aK,f,[]⟩)::nS 188 [])⟩ (kX (ev zt (cV R) kk (sub [1,1,1,1,1,1,1,0,1,0,1,1,1,1,1,1,1,0,1,1,0,0] (cd Tryz.f85))) [3,4,5,7,8,13] [6] k J)
def Ln(a b c:Int)(d:aE)(e f:af):Option R:=ev zt (cV R) kk (sub [1,1,1,1,1,1,1,0,1,0,1,1,1,1,1,1,1,0,1,1,0,0,1,0,0,1] (cd Tryz.f85)) ⟨uS 3 ([.ptr 4 cw []]::[.ptr 5 aK []]::[.ptr 6 aK []]::uS 1 ([tI a]::[tI b]::uS 4 ([tI c]::uS 180 []))),nS 4 ((some ⟨cw,d,[]⟩)::(some ⟨aK,e,[]⟩)::(some ⟨aK,f,[]⟩)::nS 188 [])⟩ (zi 2 (aU zt (cV R) kk (sub [1,1,1,1,1,1,1,0,1,0,1,1,1,1,1,1,1,0,1,1,0,0,1,1] (cd Tryz.f85)) (kX (ev zt (cV R) kk (sub [1,1,1,1,1,1,1,0,1,0,1,1,1,1,1,1,1,0,1,1,0,0] (cd Tryz.f85))) [3,4,5,7,8,13] [6] k J)))
def Lo(a b c:Int)(d:aE)(e f:af):Option R:=ev zt (cV R) kk (sub [1,1,1,1,1,1,1,0,1,0,1,1,1,1,1,1,1,0,1,1,0,0,1,1] (cd Tryz.f85)) ⟨uS 3 ([.ptr 4 cw []]::[.ptr 5 aK []]::[.ptr 6 aK []]::uS 1 ([tI a]::[tI b]::uS 4 ([tI c]::uS 180 []))),nS 4 ((some ⟨cw,d,[]⟩)::(some ⟨aK,e,[]⟩)::(some ⟨aK,f,[]⟩)::nS 188 [])⟩ (kX (ev zt (cV R) kk (sub [1,1,1,1,1,1,1,0,1,0,1,1,1,1,1,1,1,0,1,1,0,0] (cd Tryz.f85))) [3,4,5,7,8,13] [6] k J)
def RQ(a b c:Int)(d:aE)(e f:af):Option R:=aB (ev zt (cV R) kk (sub [1,1,1,1,1,1,1,0,1,0,1,1,1,1,1,1,1,0,1,1,0,0] (cd Tryz.f85))) [3,4,5,7,8,13] [6] k ⟨uS 3 ([.ptr 4 cw []]::[.ptr 5 aK []]::[.ptr 6 aK []]::uS 1 ([tI a]::[tI b]::uS 4 ([tI c]::uS 180 []))),nS 4 ((some ⟨cw,d,[]⟩)::(some ⟨aK,e,[]⟩)::(some ⟨aK,f,[]⟩)::nS 188 [])⟩ J
def zdt:State:=⟨uS 194 [],nS 195 []⟩
def Ra(a:Int):State:=⟨uS 6 ([tI a]::uS 187 []),nS 195 []⟩
def zvp:KX R:=(zi 1 (zi 0 (aU zt (cV R) kk (sub [1,1,1,1,1,1,1,1] (cd Tryz.f85)) (aT zt Tryz.f85.results.toList none K))))
theorem agc(a:Bool)(b:aE)(c d:af):Mp R kk K a b c d=
 zvu a b c d (fun a0=>K [tI a0] none) (fun a0 a1 a2=>cF kk fun _=>Mq R kk K a0 a1 a2):=by kernel_rfl
theorem agd(a:aE)(b c:af):Mq R kk K a b c=
 Fy a b c (fun a0 a1 a2 a3 a4 a5=>cF kk fun _=>Mr R kk K a0 a1 a2 a3 a4 a5):=by kernel_rfl
theorem age(a b:Int)(c:Bool)(d:aE)(e f:af):Mr R kk K a b c d e f=
 zvv a b c d e f (fun a0=>K [tI a0] none) (fun a0 a1 a2 a3 a4=>cF kk fun _=>Ms R kk K a0 a1 a2 a3 a4):=by kernel_rfl
theorem agf(a b:Int)(c:aE)(d e:af):Ms R kk K a b c d e=
 Fz a b c d e (fun a0 a1 a2 a3 a4 a5=>cF kk fun _=>Mt R kk K a0 a1 a2 a3 a4 a5):=by kernel_rfl
theorem agh(a b:Int)(c:Bool)(d:aE)(e f:af):Mt R kk K a b c d e f=
 zvw a b c d e f (fun a0=>K [tI a0] none) (fun a0 a1 a2 a3 a4=>cF kk fun _=>Mu R kk K a0 a1 a2 a3 a4):=by kernel_rfl
theorem agi(a b:Int)(c:aE)(d e:af):Mu R kk K a b c d e=
 FA a b c d e (fun a0 a1 a2 a3 a4 a5=>cF kk fun _=>Mv R kk K a0 a1 a2 a3 a4 a5):=by kernel_rfl
theorem agj(a b:Int)(c:Bool)(d:aE)(e f:af):Mv R kk K a b c d e f=
 zvx a b c d e f (fun a0=>K [tI a0] none) (fun a0 a1 a2 a3 a4=>cF kk fun _=>Mw R kk K a0 a1 a2 a3 a4):=by kernel_rfl
theorem agk(a b:Int)(c:aE)(d e:af):Mw R kk K a b c d e=
 FB a b c d e (fun a0=>K [tI a0] none) (cF kk fun _=>zip R kk K) (fun a0=>cF kk fun _=>Mx R kk K a0) (fun a0 a1 a2 a3 a4 a5=>cF kk fun _=>Lk R kk K a0 a1 a2 a3 a4 a5):=by kernel_rfl
theorem agl:zip R kk K=
 zvy (fun a0=>K [tI a0] none):=by kernel_rfl
theorem agm(a:Bool):Mx R kk K a=
 zo9 a (fun a0=>K [tI a0] none) (cF kk fun _=>zip R kk K):=by kernel_rfl
theorem acI(a b:Int)(c:Bool)(d:aE)(e f:af):Lk R kk K a b c d e f=
 zoa a b c d e f (fun a0=>K [tI a0] none) (fun a0 a1 a2 a3 a4=>cF kk fun _=>Ll R kk K a0 a1 a2 a3 a4):=by kernel_rfl
theorem acJ(a b:Int)(c:aE)(d e:af):Ll R kk K a b c d e=
 Rs a b c d e (RQ R kk kk (zvp R kk K)):=by kernel_rfl
theorem aju(a b c:Int)(d:aE)(e f:af):RQ R kk (k+1) J a b c d e f=
 Om a b c d e f (fun a0 a1 a2 a3 a4 a5=>cF kk fun _=>Lm R kk k J a0 a1 a2 a3 a4 a5) (J (.exit 1) (zdt)):=by kernel_rfl
theorem acK(a b c:Int)(d:aE)(e f:af):Lm R kk k J a b c d e f=
 Rt a b c d e f (fun a0=>J .ret (Ra a0)) (fun a0 a1 a2 a3 a4 a5=>cF kk fun _=>Ln R kk k J a0 a1 a2 a3 a4 a5):=by kernel_rfl
theorem acN:zvp R kk K (.exit 1) (zdt)=
 zob (cF kk fun _=>zip R kk K):=by kernel_rfl
theorem acO(a:Int):zvp R kk K .ret (Ra a)=
 zoc a (fun a0=>K [tI a0] none):=by kernel_rfl
theorem acL(a b c:Int)(d:aE)(e f:af):Ln R kk k J a b c d e f=
 Ru a b c d e f (fun a0=>J .ret (Ra a0)) (fun a0 a1 a2 a3 a4 a5=>cF kk fun _=>Lo R kk k J a0 a1 a2 a3 a4 a5):=by kernel_rfl
theorem acM(a b c:Int)(d:aE)(e f:af):Lo R kk k J a b c d e f=
 Rv a b c d e f (RQ R kk k J):=by kernel_rfl
theorem agn{kk:Nat}(hF:kk=ai)(t7 t8 t13:Int)(c9:aE)(cN dS:af):RQ R kk k J t7 t8 t13 c9 cN dS=(u6 k t7 t8 t13 c9 cN dS).bind fun e=>(Sum.elim (fun(we:Unit)=>J (.exit 1) (zdt)) (fun(we:Int)=>J .ret (Ra we)) e):=by
 induction k generalizing t7 t8 t13 c9 cN dS with
 |zero=>rfl
 |succ k ih=>
  rw[aju]
  simp only[u6,Om,Rt,Ru,Rv,ih,acK,acL,acM,NN (hF:=hF),aF]
def HA:ah:=cV.add 85 [cw,aK,aK] (kb cw aK aK se (fun _ r K=>K [tI r] none))
theorem o32:aO Tryz.prog HA:=ko zt Tryz.f85 (fun R kk x0 x1 x2 K=>Fx x0 x1 x2 (fun a0 a1 a2 a3=>cF kk fun _=>Mp R kk K a0 a1 a2 a3)) o31 ((ek _ _ _ _).join _) Tryz.func85 (by kernel_rfl) rfl (fun _ _ _ _ _ _ h=>h _ _) (fun _ _ _ _ _ _=>by kernel_rfl) fun R kk e x0 x1 x2 K=>by
 simp only[se,aap,zvu,aaq,zvv,aar,zvw,aas,zvx,aat,zvy,zo9,zoa,Rs,zob,zoc,agn (hF:=e),zvq,RR,AM,OA,zvr,D4,zvs,OB,RS,zvt,zo8,Ol,agc,agd,acI,acJ,age,agf,agh,agi,agj,agk,agl,agm,acN,acO,NN (hF:=e),aF,<-e]
def alG:Env:=e0 [cw,cw]
def lC:ah:=HA.add 86 [cw,cw] (dw cw cw sj (fun _ r K=>K [tB r] none))
theorem o33:aO Tryz.prog lC:=dD alG Tryz.f86 (fun R kk x0 x1 K=>Sa x0 x1 (fun a0=>K [tB a0] none)) o32 (ek _ _ _ _) Tryz.func86 (by kernel_rfl) rfl (fun _ _ _ _ _ _ h=>h _ _) (fun _ _ _ _ _=>by kernel_rfl) fun R kk e x0 x1 K=>by
 simp only[sj,Sa,aF]
def va:Env:=b8.env (fun i=>bif Nat.beq i 8 then [3,4,5,9] else bif Nat.beq i 19 then [3,4,5,13] else bif Nat.beq i 25 then [3,4,5,13,15] else []) (fun i=>bif Nat.beq i 8 then [3,4,5,6,7,8] else bif Nat.beq i 19 then [6,7,8] else bif Nat.beq i 25 then [3,4,5,6,7,8,13] else []) [] [cB,aK,aK]
def RW(a:Int)(b:ay)(c d:af):Option R:=aB (ev va (lC R) kk (sub [1,1,1,1,0,1,0,0] (cd Tryz.f61))) [3,4,5,9] [3,4,5,6,7,8] k ⟨uS 3 ([.ptr 4 cB []]::[.ptr 5 aK []]::[.ptr 6 aK []]::uS 3 ([tI a]::uS 104 [])),nS 4 ((some ⟨cB,b,[]⟩)::(some ⟨aK,c,[]⟩)::(some ⟨aK,d,[]⟩)::nS 108 [])⟩ J
def zdw(a b c:Int)(d:ay)(e f:af):State:=⟨uS 3 ([.ptr 4 cB []]::[.ptr 5 aK []]::[.ptr 6 aK []]::[tI a]::[tI b]::[tI c]::uS 105 []),nS 4 ((some ⟨cB,d,[]⟩)::(some ⟨aK,e,[]⟩)::(some ⟨aK,f,[]⟩)::nS 108 [])⟩
def zdx(a:ay)(b c:af):State:=⟨uS 3 ([.ptr 4 cB []]::[.ptr 5 aK []]::[.ptr 6 aK []]::uS 108 []),nS 4 ((some ⟨cB,a,[]⟩)::(some ⟨aK,b,[]⟩)::(some ⟨aK,c,[]⟩)::nS 108 [])⟩
def zw2:KX R:=(zi 0 (aU va (lC R) kk (sub [1,1,1,1,1] (cd Tryz.f61)) (aT va Tryz.f61.results.toList none K)))
def RX(a:Int)(b:ay)(c d:af):Option R:=aB (ev va (lC R) kk (sub [1,1,1,1,1,1,0,1,0,0] (cd Tryz.f61))) [3,4,5,13] [6,7,8] k ⟨uS 3 ([.ptr 4 cB []]::[.ptr 5 aK []]::[.ptr 6 aK []]::uS 7 ([tI a]::uS 100 [])),nS 4 ((some ⟨cB,b,[]⟩)::(some ⟨aK,c,[]⟩)::(some ⟨aK,d,[]⟩)::nS 108 [])⟩ J
def Rb(a b c:Int):State:=⟨uS 6 ([tI a]::[tI b]::[tI c]::uS 105 []),nS 115 []⟩
def zdy:State:=⟨uS 114 [],nS 115 []⟩
def zw3:KX R:=(zi 2 (aU va (lC R) kk (sub [1,1,1,1,1,1,1] (cd Tryz.f61)) (aT va Tryz.f61.results.toList none K)))
def RY(a b:Int)(c:ay)(d e:af):Option R:=aB (ev va (lC R) kk (sub [1,1,1,1,1,1,0,1,0,0,1,0,0,1,1,0,0] (cd Tryz.f61))) [3,4,5,13,15] [3,4,5,6,7,8,13] k ⟨uS 3 ([.ptr 4 cB []]::[.ptr 5 aK []]::[.ptr 6 aK []]::uS 7 ([tI a]::uS 1 ([tI b]::uS 98 []))),nS 4 ((some ⟨cB,c,[]⟩)::(some ⟨aK,d,[]⟩)::(some ⟨aK,e,[]⟩)::nS 108 [])⟩ J
def zdz(a b c d:Int)(e:ay)(f g:af):State:=⟨uS 3 ([.ptr 4 cB []]::[.ptr 5 aK []]::[.ptr 6 aK []]::[tI a]::[tI b]::[tI c]::uS 4 ([tI d]::uS 100 [])),nS 4 ((some ⟨cB,e,[]⟩)::(some ⟨aK,f,[]⟩)::(some ⟨aK,g,[]⟩)::nS 108 [])⟩
def ze0(a:Int)(b:ay)(c d:af):State:=⟨uS 3 ([.ptr 4 cB []]::[.ptr 5 aK []]::[.ptr 6 aK []]::uS 7 ([tI a]::uS 100 [])),nS 4 ((some ⟨cB,b,[]⟩)::(some ⟨aK,c,[]⟩)::(some ⟨aK,d,[]⟩)::nS 108 [])⟩
def zw4:KX R:=(zi 4 (zi 3 (aU va (lC R) kk (sub [1,1,1,1,1,1,0,1,0,0,1,1] (cd Tryz.f61)) (kX (ev va (lC R) kk (sub [1,1,1,1,1,1,0,1,0,0] (cd Tryz.f61))) [3,4,5,13] [6,7,8] k J))))
theorem ajw(a:Int)(b:ay)(c d:af):RW R kk (k+1) J a b c d=
 OD a b c d (fun a0 a1 a2 a3 a4 a5=>J .ret (zdw a0 a1 a2 a3 a4 a5)) (RW R kk k J) (fun a0 a1 a2=>J (.exit 0) (zdx a0 a1 a2)):=by kernel_rfl
theorem acR(a b c:Int)(d:ay)(e f:af):zw2 R kk K .ret (zdw a b c d e f)=
 zw5 a b c d e f (fun a0 a1 a2=>K [tI a0,tI a1,tI a2] none):=by kernel_rfl
theorem acS(a:ay)(b c:af):zw2 R kk K (.exit 0) (zdx a b c)=
 R0 a b c (fun a0 a1 a2=>K [tI a0,tI a1,tI a2] none) (RX R kk kk (zw3 R kk K)):=by kernel_rfl
theorem ajx(a:Int)(b:ay)(c d:af):RX R kk (k+1) J a b c d=
 OE a b c d (fun a0 a1 a2=>J .ret (Rb a0 a1 a2)) (RY R kk kk (zw4 R kk k J)) (J (.exit 2) (zdy)):=by kernel_rfl
theorem acT(a b c:Int):zw3 R kk K .ret (Rb a b c)=
 zw6 a b c (fun a0 a1 a2=>K [tI a0,tI a1,tI a2] none):=by kernel_rfl
theorem acU:zw3 R kk K (.exit 2) (zdy)=
 zw7 (fun a0 a1 a2=>K [tI a0,tI a1,tI a2] none):=by kernel_rfl
theorem ajy(a b:Int)(c:ay)(d e:af):RY R kk (k+1) J a b c d e=
 OG a b c d e (fun a0 a1 a2 a3 a4 a5 a6=>J .ret (zdz a0 a1 a2 a3 a4 a5 a6)) (RY R kk k J) (fun a0 a1 a2 a3=>J (.exit 4) (ze0 a0 a1 a2 a3)):=by kernel_rfl
theorem acV(a b c d:Int)(e:ay)(f g:af):zw4 R kk k J .ret (zdz a b c d e f g)=
 zw8 a b c d e f g (fun a0 a1 a2=>J .ret (Rb a0 a1 a2)):=by kernel_rfl
theorem acW(a:Int)(b:ay)(c d:af):zw4 R kk k J (.exit 4) (ze0 a b c d)=
 R3 a b c d (RX R kk k J):=by kernel_rfl
theorem agp{kk:Nat}(hF:kk=ai)(t9:Int)(c9:ay)(cN dS:af):RW R kk k J t9 c9 cN dS=(D5 k t9 c9 cN dS).bind fun e=>(Sum.elim (fun(we:lG)=>J .ret (zdw we.1 we.2.1 we.2.2.1 we.2.2.2.1 we.2.2.2.2.1 we.2.2.2.2.2)) (fun(we:lF)=>J (.exit 0) (zdx we.1 we.2.1 we.2.2)) e):=by
 induction k generalizing t9 c9 cN dS with
 |zero=>rfl
 |succ k ih=>
  rw[ajw]
  simp only[D5,OD,ih,aF]
theorem agr{kk:Nat}(hF:kk=ai)(t13 t15:Int)(c9:ay)(cN dS:af):RY R kk k J t13 t15 c9 cN dS=(D7 k t13 t15 c9 cN dS).bind fun e=>(Sum.elim (fun(we:(Int×Int×Int×Int×ay×af×af))=>J .ret (zdz we.1 we.2.1 we.2.2.1 we.2.2.2.1 we.2.2.2.2.1 we.2.2.2.2.2.1 we.2.2.2.2.2.2)) (fun(we:(Int×ay×af×af))=>J (.exit 4) (ze0 we.1 we.2.1 we.2.2.1 we.2.2.2)) e):=by
 induction k generalizing t13 t15 c9 cN dS with
 |zero=>rfl
 |succ k ih=>
  rw[ajy]
  simp only[D7,OG,ih,aF]
theorem agq{kk:Nat}(hF:kk=ai)(t13:Int)(c9:ay)(cN dS:af):RX R kk k J t13 c9 cN dS=(D6 k t13 c9 cN dS).bind fun e=>(Sum.elim (fun(we:je)=>J .ret (Rb we.1 we.2.1 we.2.2)) (fun(we:Unit)=>J (.exit 2) (zdy)) e):=by
 induction k generalizing t13 c9 cN dS with
 |zero=>rfl
 |succ k ih=>
  rw[ajx]
  simp only[D6,OE,zw8,R3,ih,agr (hF:=hF),acV,acW,aF,<-hF]
def vN:ah:=lC.add 61 [cB,aK,aK] (kb cB aK aK sf (fun _ r K=>K [tI r.1,tI r.2.1,tI r.2.2] none))
theorem o34:aO Tryz.prog vN:=ko va Tryz.f61 (fun R kk x0 x1 x2 K=>RZ x0 x1 x2 (fun a0 a1 a2=>K [tI a0,tI a1,tI a2] none) (RW R kk kk (zw2 R kk K))) o33 (ek _ _ _ _) Tryz.func61 (by kernel_rfl) rfl (fun _ _ _ _ _ _ h=>h _ _) (fun _ _ _ _ _ _=>by kernel_rfl) fun R kk e x0 x1 x2 K=>by
 simp only[sf,RZ,zw5,R0,zw6,zw7,agp (hF:=e),agq (hF:=e),acR,acS,acT,acU,aF,<-e]
def UP:Env:=b8.env (fun i=>bif Nat.beq i 4 then [1,5] else []) (fun i=>bif Nat.beq i 4 then [2,3,4] else []) [] [bu]
def Sm(a:Int)(b:al):Option R:=aB (ev UP (vN R) kk (sub [1,1,0,1,0,0] (cd Tryz.f41))) [1,5] [2,3,4] k ⟨uS 1 ([.ptr 2 bu []]::uS 3 ([tI a]::uS 56 [])),nS 2 ((some ⟨bu,b,[]⟩)::nS 60 [])⟩ J
def zee(a b c:Int):State:=⟨uS 2 ([tI a]::[tI b]::[tI c]::uS 57 []),nS 63 []⟩
def zef:State:=⟨uS 62 [],nS 63 []⟩
def zwt:KX R:=(zi 0 (aU UP (vN R) kk (sub [1,1,1] (cd Tryz.f41)) (aT UP Tryz.f41.results.toList none K)))
theorem ajG(a:Int)(b:al):Sm R kk (k+1) J a b=
 FC a b (fun a0 a1 a2=>J .ret (zee a0 a1 a2)) (Sm R kk k J) (J (.exit 0) (zef)):=by kernel_rfl
theorem ada(a b c:Int):zwt R kk K .ret (zee a b c)=
 zwu a b c (fun a0 a1 a2=>K [tI a0,tI a1,tI a2] none):=by kernel_rfl
theorem adb:zwt R kk K (.exit 0) (zef)=
 zwv (fun a0 a1 a2=>K [tI a0,tI a1,tI a2] none):=by kernel_rfl
theorem agz{kk:Nat}(hF:kk=ai)(t5:Int)(cW:al):Sm R kk k J t5 cW=(Eb k t5 cW).bind fun e=>(Sum.elim (fun(we:je)=>J .ret (zee we.1 we.2.1 we.2.2)) (fun(we:Unit)=>J (.exit 0) (zef)) e):=by
 induction k generalizing t5 cW with
 |zero=>rfl
 |succ k ih=>
  rw[ajG]
  simp only[Eb,FC,ih,aF]
def HB:ah:=vN.add 41 [bu] (cK bu sn (fun _ r K=>K [tI r.1,tI r.2.1,tI r.2.2] none))
theorem o35:aO Tryz.prog HB:=cM UP Tryz.f41 (fun R kk x0 K=>Sn x0 (fun a0 a1 a2=>K [tI a0,tI a1,tI a2] none) (Sm R kk kk (zwt R kk K))) o34 (ek _ _ _ _) Tryz.func41 (by kernel_rfl) rfl (fun _ _ _ _ _ _ h=>h _ _) (fun _ _ _ _=>by kernel_rfl) fun R kk e x0 K=>by
 simp only[sn,Sn,zwu,zwv,agz (hF:=e),ada,adb,aF,<-e]
def alL:Env:=e0 [bu]
def HC:ah:=HB.add 14 [bu] (cK bu ss (fun _ r K=>K [tB r] none))
theorem o36:aO Tryz.prog HC:=cM alL Tryz.f14 (fun R kk x0 K=>Sr x0 (fun a0=>K [tB a0] none)) o35 (ek _ _ _ _) Tryz.func14 (by kernel_rfl) rfl (fun _ _ _ _ _ _ h=>h _ _) (fun _ _ _ _=>by kernel_rfl) fun R kk e x0 K=>by
 simp only[ss,Sr,aF]
def alE:Env:=e0 [(.sl 109 (.pair .str (.pair .str .unit)))]
def HD:ah:=HC.add 57 [(.sl 109 (.pair .str (.pair .str .unit)))] (cK (.sl 109 (.pair .str (.pair .str .unit))) qn (fun _ r K=>K [.ak (.sl 109 (.pair .str (.pair .str .unit))) r [[]]] none))
theorem o37:aO Tryz.prog HD:=cM alE Tryz.f57 (fun R kk x0 K=>RL x0 (fun a0=>K [.ak (.sl 109 (.pair .str (.pair .str .unit))) a0 [[]]] none)) o36 (ek _ _ _ _) Tryz.func57 (by kernel_rfl) rfl (fun _ _ _ _ _ _ h=>h _ _) (fun _ _ _ _=>by kernel_rfl) fun R kk e x0 K=>by
 simp only[qn,RL,aF]
def alF:Env:=b8.env (fun _=>[]) (fun _=>[]) [2] [cw]
def vO:ah:=HD.add 58 [cw] (cK cw nH (fun _ r K=>K [.ak cw r [[4]]] none))
theorem o38:aO Tryz.prog vO:=cM alF Tryz.f58 (fun R kk x0 K=>RT x0 (fun a0=>K [.ak cw a0 [[4]]] none)) o37 (ek _ _ _ _) Tryz.func58 (by kernel_rfl) rfl (fun _ _ _ _ _ _ h=>h _ _) (fun _ _ _ _=>by kernel_rfl) fun R kk e x0 K=>by
 simp only[nH,RT,aF]
def UL:Env:=b8.env (fun i=>bif Nat.beq i 3 then [1,2,3,4] else []) (fun i=>bif Nat.beq i 3 then [2,3] else []) [2] [cB]
def R4(a:Int)(b c d:ay):Option R:=aB (ev UL (vO R) kk (sub [1,1,0,1,0,0] (cd Tryz.f39))) [1,2,3,4] [2,3] k ⟨uS 1 ([.ptr 2 cB []]::[.ptr 3 cB []]::[.ptr 4 cB []]::[tI a]::uS 23 []),nS 2 ((some ⟨cB,b,[]⟩)::(some ⟨cB,c,[[0],[1]]⟩)::(some ⟨cB,d,[[0],[1]]⟩)::nS 24 [])⟩ J
def ze1(a b:ay):State:=⟨uS 2 ([.ptr 3 cB []]::[.ptr 4 cB []]::uS 24 []),nS 3 ((some ⟨cB,a,[[0],[1]]⟩)::(some ⟨cB,b,[[0],[1]]⟩)::nS 24 [])⟩
def My:KX R:=(zi 0 (aU UL (vO R) kk (sub [1,1,1] (cd Tryz.f39)) (aT UL Tryz.f39.results.toList none K)))
theorem ajz(a:Int)(b c d:ay):R4 R kk (k+1) J a b c d=
 zw9 a b c d (R4 R kk k J) (fun a0 a1=>J (.exit 0) (ze1 a0 a1)):=by kernel_rfl
theorem acX(a b:ay):My R kk K (.exit 0) (ze1 a b)=
 zwa a b (fun a0=>K [.ak cB a0 [[0],[1]]] none):=by kernel_rfl
theorem ags{kk:Nat}(hF:kk=ai)(t4:Int)(cW dy c9:ay):R4 R kk k J t4 cW dy c9=(OH k t4 cW dy c9).bind fun e=>J (.exit 0) (ze1 e.1 e.2):=by
 induction k generalizing t4 cW dy c9 with
 |zero=>rfl
 |succ k ih=>
  rw[ajz]
  simp only[OH,zw9,ih,aF]
def HE:ah:=vO.add 39 [cB] (cK cB si (fun _ r K=>K [.ak cB r [[0],[1]]] none))
theorem o39:aO Tryz.prog HE:=cM UL Tryz.f39 (fun R kk x0 K=>R5 x0 (R4 R kk kk (My R kk K))) o38 (ek _ _ _ _) Tryz.func39 (by kernel_rfl) rfl (fun _ _ _ _ _ _ h=>h _ _) (fun _ _ _ _=>by kernel_rfl) fun R kk e x0 K=>by
 simp only[si,R5,zwa,ags (hF:=e),acX,aF,<-e]
def Hk:Env:=b8.env (fun _=>[]) (fun _=>[]) [2] [aK]
def HF:ah:=HE.add 59 [aK] (cK aK Hj (fun _ r K=>K [.ak aK r [[2]]] none))
theorem o40:aO Tryz.prog HF:=cM Hk Tryz.f59 (fun R kk x0 K=>Ww x0 (fun a0=>K [.ak aK a0 [[2]]] none)) o39 (ek _ _ _ _) Tryz.func59 (by kernel_rfl) rfl (fun _ _ _ _ _ _ h=>h _ _) (fun _ _ _ _=>by kernel_rfl) fun R kk e x0 K=>by
 simp only[Hj,Ww,aF]
def alI:Env:=b8.env (fun _=>[]) (fun _=>[]) [2] [cr]
def vP:ah:=HF.add 40 [cr] (cK cr sm (fun _ r K=>K [.ak cr r [[3],[2],[0,2]]] none))
theorem o41:aO Tryz.prog vP:=cM alI Tryz.f40 (fun R kk x0 K=>Sh x0 (fun a0=>K [.ak cr a0 [[3],[2],[0,2]]] none)) o40 (ek _ _ _ _) Tryz.func40 (by kernel_rfl) rfl (fun _ _ _ _ _ _ h=>h _ _) (fun _ _ _ _=>by kernel_rfl) fun R kk e x0 K=>by
 simp only[sm,Sh,aF]
def UQ:Env:={b8.env (fun i=>bif Nat.beq i 2 then [1,2,3] else []) (fun i=>bif Nat.beq i 2 then [1,2] else []) [2] [bu] with sh:=[20]}
def So(a:Int)(b c:al):Option R:=aB (ev UQ (vP R) kk (sub [1,0,1,0,0] (cd Tryz.f13))) [1,2,3] [1,2] k ⟨uS 1 ([.ptr 2 bu []]::[.ptr 3 bu []]::[tI a]::uS 25 []),nS 2 ((some ⟨bu,b,[]⟩)::(some ⟨bu,c,[]⟩)::nS 26 [])⟩ J
def zeg(a b:al):State:=⟨uS 1 ([.ptr 2 bu []]::[.ptr 3 bu []]::uS 26 []),nS 2 ((some ⟨bu,a,[]⟩)::(some ⟨bu,b,[]⟩)::nS 26 [])⟩
def Mz:KX R:=(zi 0 (aU UQ (vP R) kk (sub [1,1] (cd Tryz.f13)) (aT UQ Tryz.f13.results.toList none K)))
theorem ajH(a:Int)(b c:al):So R kk (k+1) J a b c=
 FD a b c (So R kk k J) (fun a0 a1=>J (.exit 0) (zeg a0 a1)):=by kernel_rfl
theorem ade(a b:al):Mz R kk K (.exit 0) (zeg a b)=
 zww a b (fun a0=>K [.ak bu a0 []] none):=by kernel_rfl
theorem agA{kk:Nat}(hF:kk=ai)(t3:Int)(cW dy:al):So R kk k J t3 cW dy=(Ec k t3 cW dy).bind fun e=>J (.exit 0) (zeg e.1 e.2):=by
 induction k generalizing t3 cW dy with
 |zero=>rfl
 |succ k ih=>
  rw[ajH]
  simp only[Ec,FD,ih,aF]
def HG:ah:=vP.add 13 [bu] (cK bu sr (fun _ r K=>K [.ak bu r []] none))
theorem o42:aO Tryz.prog HG:=cM UQ Tryz.f13 (fun R kk x0 K=>Sp x0 (So R kk kk (Mz R kk K))) o41 ((ek _ _ _ _).sh _) Tryz.func13 (by kernel_rfl) rfl (fun _ _ _ _ _ _ h=>h _ _) (fun _ _ _ _=>by kernel_rfl) fun R kk e x0 K=>by
 simp only[sr,Sp,zww,agA (hF:=e),ade,aF,<-e]
def Gn:Env:=e0 [(.int .i64)]
def HH:ah:=HG.add 200 [(.int .i64)] (cK (.int .i64) xX (fun _ r K=>K [tI r] none))
theorem o43:aO Tryz.prog HH:=cM Gn Tryz.f200 (fun R kk x0 K=>Vd x0 (fun a0=>K [tI a0] none)) o42 (ek _ _ _ _) Tryz.func200 (by kernel_rfl) rfl (fun _ _ _ _ _ _ h=>h _ _) (fun _ _ _ _=>by kernel_rfl) fun R kk e x0 K=>by
 simp only[xX,Vd,aF]
def Gj:Env:=e0 [(.int .i64)]
def HI:ah:=HH.add 148 [(.int .i64)] (cK (.int .i64) A8 (fun _ r K=>K [tB r] none))
theorem o44:aO Tryz.prog HI:=cM Gj Tryz.f148 (fun R kk x0 K=>U4 x0 (fun a0=>K [tB a0] none)) o43 (ek _ _ _ _) Tryz.func148 (by kernel_rfl) rfl (fun _ _ _ _ _ _ h=>h _ _) (fun _ _ _ _=>by kernel_rfl) fun R kk e x0 K=>by
 simp only[A8,U4,aF]
def al0:Env:=e0 [(.int .i64)]
def vQ:ah:=HI.add 201 [(.int .i64)] (cK (.int .i64) jC (fun _ r K=>K [tI r] none))
theorem o45:aO Tryz.prog vQ:=cM al0 Tryz.f201 (fun R kk x0 K=>OW x0 (fun a0=>K [tI a0] none)) o44 (ek _ _ _ _) Tryz.func201 (by kernel_rfl) rfl (fun _ _ _ _ _ _ h=>h _ _) (fun _ _ _ _=>by kernel_rfl) fun R kk e x0 K=>by
 simp only[jC,OW,aF]
def U6:Env:=b8.env (fun i=>bif Nat.beq i 3 then [3,5,6] else []) (fun i=>bif Nat.beq i 3 then [3] else []) [] [(.int .i64)]
def SW(a b c:Int):Option R:=aB (ev U6 (vQ R) kk (sub [1,1,0,1,0,0] (cd Tryz.f149))) [3,5,6] [3] k ⟨uS 3 ([tI a]::uS 1 ([tI b]::[tI c]::uS 6 [])),nS 14 []⟩ J
def zey(a:Int):State:=⟨uS 3 ([tI a]::uS 9 []),nS 14 []⟩
def MF:KX R:=(zi 0 (aU U6 (vQ R) kk (sub [1,1,1] (cd Tryz.f149)) (aT U6 Tryz.f149.results.toList none K)))
theorem ajT(a b c:Int):SW R kk (k+1) J a b c=
 zxv a b c (SW R kk k J) (fun a0=>J (.exit 0) (zey a0)):=by kernel_rfl
theorem adv(a:Int):MF R kk K (.exit 0) (zey a)=
 zxw a (fun a0=>K [tI a0] none):=by kernel_rfl
theorem agN{kk:Nat}(hF:kk=ai)(t3 t5 t6:Int):SW R kk k J t3 t5 t6=(SX k t3 t5 t6).bind fun e=>J (.exit 0) (zey e):=by
 induction k generalizing t3 t5 t6 with
 |zero=>rfl
 |succ k ih=>
  rw[ajT]
  simp only[SX,zxv,ih,aF]
def HJ:ah:=vQ.add 149 [(.int .i64)] (cK (.int .i64) qu (fun _ r K=>K [tI r] none))
theorem o46:aO Tryz.prog HJ:=cM U6 Tryz.f149 (fun R kk x0 K=>zxu x0 (SW R kk kk (MF R kk K))) o45 (ek _ _ _ _) Tryz.func149 (by kernel_rfl) rfl (fun _ _ _ _ _ _ h=>h _ _) (fun _ _ _ _=>by kernel_rfl) fun R kk e x0 K=>by
 simp only[qu,zxu,zxw,agN (hF:=e),adv,aF,<-e]
def amd:Env:=e0 [cH]
def vR:ah:=HJ.add 96 [cH] (cK cH lz (fun _ r K=>K [tI r] none))
theorem o47:aO Tryz.prog vR:=cM amd Tryz.f96 (fun R kk x0 K=>TF x0 (fun a0=>K [tI a0] none)) o46 (ek _ _ _ _) Tryz.func96 (by kernel_rfl) rfl (fun _ _ _ _ _ _ h=>h _ _) (fun _ _ _ _=>by kernel_rfl) fun R kk e x0 K=>by
 simp only[lz,TF,aF]
def Vb:Env:=b8.env (fun i=>bif Nat.beq i 6 then [1,26,27,28] else []) (fun i=>bif Nat.beq i 6 then [2,3] else []) [] [aK]
def Tr(a:gC)(b c:Int)(d:af):Option R:=aB (ev Vb (vR R) kk (sub [1,1,0,1,0,0] (cd Tryz.f68))) [1,26,27,28] [2,3] k ⟨uS 1 ([.ptr 2 aK []]::uS 24 ([.ak (.sl 127 cH) a []]::[tI b]::[tI c]::uS 26 [])),nS 2 ((some ⟨aK,d,[]⟩)::nS 53 [])⟩ J
def zfc(a b:Int):State:=⟨uS 2 ([tI a]::[tI b]::uS 51 []),nS 56 []⟩
def zfd:State:=⟨uS 55 [],nS 56 []⟩
def zyf:KX R:=(zi 1 (aU Vb (vR R) kk (sub [1,1,1] (cd Tryz.f68)) (aT Vb Tryz.f68.results.toList none K)))
theorem aj1(a:gC)(b c:Int)(d:af):Tr R kk (k+1) J a b c d=
 O2 a b c d (fun a0 a1=>J .ret (zfc a0 a1)) (Tr R kk k J) (J (.exit 1) (zfd)):=by kernel_rfl
theorem adJ(a b:Int):zyf R kk K .ret (zfc a b)=
 Ts a b (fun a0 a1=>K [tI a0,tI a1] none):=by kernel_rfl
theorem adK:zyf R kk K (.exit 1) (zfd)=
 Tt (fun a0 a1=>K [tI a0,tI a1] none):=by kernel_rfl
theorem agV{kk:Nat}(hF:kk=ai)(t26:gC)(t27 t28:Int)(cW:af):Tr R kk k J t26 t27 t28 cW=(z59 k t26 t27 t28 cW).bind fun e=>(Sum.elim (fun(we:(Int×Int))=>J .ret (zfc we.1 we.2)) (fun(we:Unit)=>J (.exit 1) (zfd)) e):=by
 induction k generalizing t26 t27 t28 cW with
 |zero=>rfl
 |succ k ih=>
  rw[aj1]
  simp only[z59,O2,ih,aF]
def vS:ah:=vR.add 68 [aK] (cK aK my (fun _ r K=>K [tI r.1,tI r.2] none))
theorem o48:aO Tryz.prog vS:=cM Vb Tryz.f68 (fun R kk x0 K=>z87 x0 (fun a0 a1=>K [tI a0,tI a1] none) (fun a0 a1 a2 a3=>Tr R kk kk (zyf R kk K) a0 a1 a2 a3)) o47 (ek _ _ _ _) Tryz.func68 (by kernel_rfl) rfl (fun _ _ _ _ _ _ h=>h _ _) (fun _ _ _ _=>by kernel_rfl) fun R kk e x0 K=>by
 simp only[my,aau,Ts,Tt,agV (hF:=e),adJ,adK,aF,<-e]
def Vc:Env:=b8.env (fun i=>bif Nat.beq i 2 then [1,4,9,10,11] else []) (fun i=>bif Nat.beq i 2 then [4,5] else []) [4] [aK,(.int .i64)]
def Tu(a:Int)(b:gC)(c d:Int)(e:aS):Option R:=aB (ev Vc (vS R) kk (sub [1,0,1,0,0] (cd Tryz.f69))) [1,4,9,10,11] [4,5] k ⟨uS 1 ([tI a]::uS 2 ([.ptr 5 cH []]::uS 4 ([.ak (.sl 127 cH) b []]::[tI c]::[tI d]::uS 10 []))),nS 5 ((some ⟨cH,e,[]⟩)::nS 17 [])⟩ J
def zfe(a:Bool)(b:aS):State:=⟨uS 4 ([.ptr 5 cH []]::[tB a]::uS 16 []),nS 5 ((some ⟨cH,b,[]⟩)::nS 17 [])⟩
def zff(a:aS):State:=⟨uS 4 ([.ptr 5 cH []]::uS 17 []),nS 5 ((some ⟨cH,a,[]⟩)::nS 17 [])⟩
def zyg:KX R:=(zi 0 (aU Vc (vS R) kk (sub [1,1] (cd Tryz.f69)) (aT Vc Tryz.f69.results.toList none K)))
theorem aj2(a:Int)(b:gC)(c d:Int)(e:aS):Tu R kk (k+1) J a b c d e=
 zyh a b c d e (fun a0 a1=>J .ret (zfe a0 a1)) (Tu R kk k J) (fun a0=>J (.exit 0) (zff a0)):=by kernel_rfl
theorem adL(a:Bool)(b:aS):zyg R kk K .ret (zfe a b)=
 zyi a b (fun a0 a1=>K [.ak cH a0 [],tB a1] none):=by kernel_rfl
theorem adM(a:aS):zyg R kk K (.exit 0) (zff a)=
 zyj a (fun a0 a1=>K [.ak cH a0 [],tB a1] none):=by kernel_rfl
theorem agW{kk:Nat}(hF:kk=ai)(fe:Int)(t9:gC)(t10 t11:Int)(cN:aS):Tu R kk k J fe t9 t10 t11 cN=(O3 k fe t9 t10 t11 cN).bind fun e=>(Sum.elim (fun(we:(Bool×aS))=>J .ret (zfe we.1 we.2)) (fun(we:aS)=>J (.exit 0) (zff we)) e):=by
 induction k generalizing fe t9 t10 t11 cN with
 |zero=>rfl
 |succ k ih=>
  rw[aj2]
  simp only[O3,zyh,ih,aF]
def vT:ah:=vS.add 69 [aK,(.int .i64)] (dw aK (.int .i64) fF (fun _ r K=>K [.ak cH r.1 [],tB r.2] none))
theorem o49:aO Tryz.prog vT:=dD Vc Tryz.f69 (fun R kk x0 x1 K=>Tv x0 x1 (Tu R kk kk (zyg R kk K))) o48 (ek _ _ _ _) Tryz.func69 (by kernel_rfl) rfl (fun _ _ _ _ _ _ h=>h _ _) (fun _ _ _ _ _=>by kernel_rfl) fun R kk e x0 x1 K=>by
 simp only[fF,Tv,zyi,zyj,agW (hF:=e),adL,adM,aF,<-e]
def Vg:Env:=b8.env (fun i=>bif Nat.beq i 2 then [0,1,7,8] else []) (fun i=>bif Nat.beq i 2 then [4] else []) [] [(.sl 3 (.int .i64)),(.int .i64)]
def TD(a:(List Int))(b c d:Int):Option R:=aB (ev Vg (vT R) kk (sub [1,0,1,0,0] (cd Tryz.f150))) [0,1,7,8] [4] k ⟨[.ak (.sl 3 (.int .i64)) a []]::[tI b]::uS 5 ([tI c]::[tI d]::uS 10 []),nS 20 []⟩ J
def zfk(a:Int):State:=⟨uS 4 ([tI a]::uS 14 []),nS 20 []⟩
def zfl:State:=⟨uS 19 [],nS 20 []⟩
def zyt:KX R:=(zi 0 (aU Vg (vT R) kk (sub [1,1] (cd Tryz.f150)) (aT Vg Tryz.f150.results.toList none K)))
theorem aj6(a:(List Int))(b c d:Int):TD R kk (k+1) J a b c d=
 zyu a b c d (fun a0=>J .ret (zfk a0)) (TD R kk k J) (J (.exit 0) (zfl)):=by kernel_rfl
theorem adR(a:Int):zyt R kk K .ret (zfk a)=
 zyv a (fun a0=>K [tI a0] none):=by kernel_rfl
theorem adS:zyt R kk K (.exit 0) (zfl)=
 zyw (fun a0=>K [tI a0] none):=by kernel_rfl
theorem agZ{kk:Nat}(hF:kk=ai)(lH:(List Int))(W6 t7 t8:Int):TD R kk k J lH W6 t7 t8=(O6 k lH W6 t7 t8).bind fun e=>(Sum.elim (fun(we:Int)=>J .ret (zfk we)) (fun(we:Unit)=>J (.exit 0) (zfl)) e):=by
 induction k generalizing lH W6 t7 t8 with
 |zero=>rfl
 |succ k ih=>
  rw[aj6]
  simp only[O6,zyu,ih,aF]
def HK:ah:=vT.add 150 [(.sl 3 (.int .i64)),(.int .i64)] (dw (.sl 3 (.int .i64)) (.int .i64) vp (fun _ r K=>K [tI r] none))
theorem o50:aO Tryz.prog HK:=dD Vg Tryz.f150 (fun R kk x0 x1 K=>TE x0 x1 (TD R kk kk (zyt R kk K))) o49 (ek _ _ _ _) Tryz.func150 (by kernel_rfl) rfl (fun _ _ _ _ _ _ h=>h _ _) (fun _ _ _ _ _=>by kernel_rfl) fun R kk e x0 x1 K=>by
 simp only[vp,TE,zyv,zyw,agZ (hF:=e),adR,adS,aF,<-e]
def amb:Env:=e0 [(.sl 3 (.int .i64)),(.int .i64)]
def HL:ah:=HK.add 97 [(.sl 3 (.int .i64)),(.int .i64)] (dw (.sl 3 (.int .i64)) (.int .i64) sO (fun _ r K=>K [tB r] none))
theorem o51:aO Tryz.prog HL:=dD amb Tryz.f97 (fun R kk x0 x1 K=>Tx x0 x1 (fun a0=>K [tB a0] none)) o50 (ek _ _ _ _) Tryz.func97 (by kernel_rfl) rfl (fun _ _ _ _ _ _ h=>h _ _) (fun _ _ _ _ _=>by kernel_rfl) fun R kk e x0 x1 K=>by
 simp only[sO,Tx,aF]
def al3:Env:=e0 [cr,(.int .i64)]
def HM:ah:=HL.add 70 [cr,(.int .i64)] (dw cr (.int .i64) sK (fun _ r K=>K [tI r] none))
theorem o52:aO Tryz.prog HM:=dD al3 Tryz.f70 (fun R kk x0 x1 K=>Te x0 x1 (fun a0=>K [tI a0] none)) o51 (ek _ _ _ _) Tryz.func70 (by kernel_rfl) rfl (fun _ _ _ _ _ _ h=>h _ _) (fun _ _ _ _ _=>by kernel_rfl) fun R kk e x0 x1 K=>by
 simp only[sK,Te,aF]
def al2:Env:=e0 [(.pair (.int .i64) (.pair .str .unit)),.unit]
def vU:ah:=HM.add 99 [(.pair (.int .i64) (.pair .str .unit)),.unit] (pz (.pair (.int .i64) (.pair .str .unit)) (.pair (.int .i64) (.pair .str .unit)) (.pair (.int .i64) (.pair .str .unit)) [] qx (fun _ r K=>K [tB r.1] (some ⟨(.pair (.int .i64) (.pair .str .unit)),r.2,[]⟩)))
theorem o53:aO Tryz.prog vU:=sz al2 Tryz.f99 (fun R kk x0 x1 K=>Td x0 x1 (fun a0 a1=>K [tB a0] (some ⟨(.pair (.int .i64) (.pair .str .unit)),a1,[]⟩))) o52 (ek _ _ _ _) Tryz.func99 (by kernel_rfl) rfl (fun _ _ _ _ _ _ h=>h _ _) (fun _ _ _ _ _=>by kernel_rfl) fun R kk e x0 x1 K=>by
 simp only[qx,Td,aF]
def Ve:Env:=b8.env (fun i=>bif Nat.beq i 2 then [0,1,7,8] else []) (fun i=>bif Nat.beq i 2 then [4] else []) [] [(.sl 107 (.pair (.int .i64) (.pair .str .unit))),.unit]
def Tz(a:ap)(b c:Int)(d:bh):Option R:=aB (ev Ve (vU R) kk (sub [1,0,1,0,0] (cd Tryz.f151))) [0,1,7,8] [4] k ⟨[.ak (.sl 107 (.pair (.int .i64) (.pair .str .unit))) a []]::[.ptr 0 (.aG (.rF 99) (.pair (.int .i64) (.pair .str .unit)) .unit) []]::uS 5 ([tI b]::[tI c]::uS 10 []),(some ⟨(.pair (.int .i64) (.pair .str .unit)),d,[]⟩)::nS 19 []⟩ J
def zfg(a:Int)(b:bh):State:=⟨uS 4 ([tI a]::uS 14 []),(some ⟨(.pair (.int .i64) (.pair .str .unit)),b,[]⟩)::nS 19 []⟩
def zfh(a:bh):State:=⟨uS 19 [],(some ⟨(.pair (.int .i64) (.pair .str .unit)),a,[]⟩)::nS 19 []⟩
def zyl(a:bh):KX R:=(zi 0 (aU Ve (vU R) kk (sub [1,1] (cd Tryz.f151)) (aT Ve Tryz.f151.results.toList (some ⟨(.pair (.int .i64) (.pair .str .unit)),a,[]⟩) K)))
theorem aj4(a:ap)(b c:Int)(d:bh):Tz R kk (k+1) J a b c d=
 zym a b c d (fun a0 a1=>J .ret (zfg a0 a1)) (Tz R kk k J) (fun a0=>J (.exit 0) (zfh a0)):=by kernel_rfl
theorem adN(a:bh)(b:Int)(c:bh):zyl R kk K a .ret (zfg b c)=
 zyn b c (fun a0 a1=>K [tI a0] (some ⟨(.pair (.int .i64) (.pair .str .unit)),a1,[]⟩)):=by kernel_rfl
theorem adO(a b:bh):zyl R kk K a (.exit 0) (zfh b)=
 zyo b (fun a0 a1=>K [tI a0] (some ⟨(.pair (.int .i64) (.pair .str .unit)),a1,[]⟩)):=by kernel_rfl
theorem agX{kk:Nat}(hF:kk=ai)(lH:ap)(t7 t8:Int)(recv:bh):Tz R kk k J lH t7 t8 recv=(O4 k lH t7 t8 recv).bind fun e=>(Sum.elim (fun(we:(Int×bh))=>J .ret (zfg we.1 we.2)) (fun(we:bh)=>J (.exit 0) (zfh we)) e):=by
 induction k generalizing lH t7 t8 recv with
 |zero=>rfl
 |succ k ih=>
  rw[aj4]
  simp only[O4,zym,ih,aF]
def HN:ah:=vU.add 151 [(.sl 107 (.pair (.int .i64) (.pair .str .unit))),.unit] (pz (.sl 107 (.pair (.int .i64) (.pair .str .unit))) (.aG (.rF 99) (.pair (.int .i64) (.pair .str .unit)) .unit) (.pair (.int .i64) (.pair .str .unit)) [] vn (fun _ r K=>K [tI r.1] (some ⟨(.pair (.int .i64) (.pair .str .unit)),r.2,[]⟩)))
theorem o54:aO Tryz.prog HN:=sz Ve Tryz.f151 (fun R kk x0 x1 K=>TA x0 x1 (Tz R kk kk (zyl R kk K x1))) o53 (ek _ _ _ _) Tryz.func151 (by kernel_rfl) rfl (fun _ _ _ _ _ _ h=>h _ _) (fun _ _ _ _ _=>by kernel_rfl) fun R kk e x0 x1 K=>by
 simp only[vn,TA,zyn,zyo,agX (hF:=e),adN,adO,aF,<-e]
def ama:Env:=e0 [(.sl 107 (.pair (.int .i64) (.pair .str .unit))),.unit]
def HO:ah:=HN.add 98 [(.sl 107 (.pair (.int .i64) (.pair .str .unit))),.unit] (pz (.sl 107 (.pair (.int .i64) (.pair .str .unit))) (.aG (.rF 99) (.pair (.int .i64) (.pair .str .unit)) .unit) (.pair (.int .i64) (.pair .str .unit)) [] sN (fun _ r K=>K [tB r.1] (some ⟨(.pair (.int .i64) (.pair .str .unit)),r.2,[]⟩)))
theorem o55:aO Tryz.prog HO:=sz ama Tryz.f98 (fun R kk x0 x1 K=>Tw x0 x1 (fun a0 a1=>K [tB a0] (some ⟨(.pair (.int .i64) (.pair .str .unit)),a1,[]⟩))) o54 (ek _ _ _ _) Tryz.func98 (by kernel_rfl) rfl (fun _ _ _ _ _ _ h=>h _ _) (fun _ _ _ _ _=>by kernel_rfl) fun R kk e x0 x1 K=>by
 simp only[sN,Tw,aF]
def Gm:Env:=e0 [(.int .u8)]
def vV:ah:=HO.add 202 [(.int .u8)] (cK (.int .u8) A9 (fun _ r K=>K [tI r] none))
theorem o56:aO Tryz.prog vV:=cM Gm Tryz.f202 (fun R kk x0 K=>CF x0 (fun a0=>K [tI a0] none)) o55 (ek _ _ _ _) Tryz.func202 (by kernel_rfl) rfl (fun _ _ _ _ _ _ h=>h _ _) (fun _ _ _ _=>by kernel_rfl) fun R kk e x0 K=>by
 simp only[A9,CF,aF]
def ot:Env:=b8.env (fun i=>bif Nat.beq i 3 then [1,5,6] else []) (fun i=>bif Nat.beq i 3 then [4] else []) [] [(.int .i64),.str]
def UZ(a:ByteArray)(b c:Int):Option R:=aB (ev ot (vV R) kk (sub [1,1,0,1,0,0] (cd Tryz.f152))) [1,5,6] [4] k ⟨uS 1 ([tS a]::uS 3 ([tI b]::[tI c]::uS 16 [])),nS 24 []⟩ J
def zod(a:Int):State:=⟨uS 4 ([tI a]::uS 18 []),nS 24 []⟩
def zoe:State:=⟨uS 23 [],nS 24 []⟩
def CC:KX R:=(zi 0 (aU ot (vV R) kk (sub [1,1,1] (cd Tryz.f152)) (aT ot Tryz.f152.results.toList none K)))
theorem alO(a:ByteArray)(b c:Int):UZ R kk (k+1) J a b c=
 Pt a b c (fun a0=>J .ret (zod a0)) (UZ R kk k J) (J (.exit 0) (zoe)):=by kernel_rfl
theorem agH(a:Int):CC R kk K .ret (zod a)=
 CD a (fun a0=>K [tI a0] none):=by kernel_rfl
theorem agI:CC R kk K (.exit 0) (zoe)=
 CE (fun a0=>K [tI a0] none):=by kernel_rfl
theorem ajO{kk:Nat}(hF:kk=ai)(kF:ByteArray)(t5 t6:Int):UZ R kk k J kF t5 t6=(Eu k kF t5 t6).bind fun e=>(Sum.elim (fun(we:Int)=>J .ret (zod we)) (fun(we:Unit)=>J (.exit 0) (zoe)) e):=by
 induction k generalizing kF t5 t6 with
 |zero=>rfl
 |succ k ih=>
  rw[alO]
  simp only[Eu,Pt,ih,aF]
def HP:ah:=vV.add 152 [(.int .i64),.str] (dw (.int .i64) .str Gi (fun _ r K=>K [tI r] none))
theorem o57:aO Tryz.prog HP:=dD ot Tryz.f152 (fun R kk x0 x1 K=>U0 x0 x1 (UZ R kk kk (CC R kk K))) o56 (ek _ _ _ _) Tryz.func152 (by kernel_rfl) rfl (fun _ _ _ _ _ _ h=>h _ _) (fun _ _ _ _ _=>by kernel_rfl) fun R kk e x0 x1 K=>by
 simp only[Gi,U0,CD,CE,ajO (hF:=e),agH,agI,aF,<-e]
def amm:Env:=e0 [(.int .i64)]
def HQ:ah:=HP.add 222 [(.int .i64)] (cK (.int .i64) nP (fun _ r K=>K [tB r] none))
theorem o58:aO Tryz.prog HQ:=cM amm Tryz.f222 (fun R kk x0 K=>zz0 x0 (fun a0=>K [tB a0] none)) o57 (ek _ _ _ _) Tryz.func222 (by kernel_rfl) rfl (fun _ _ _ _ _ _ h=>h _ _) (fun _ _ _ _=>by kernel_rfl) fun R kk e x0 K=>by
 simp only[nP,zz0,aF]
def aml:Env:=e0 [(.int .i64)]
def HR:ah:=HQ.add 223 [(.int .i64)] (cK (.int .i64) sU (fun _ r K=>K [tB r] none))
theorem o59:aO Tryz.prog HR:=cM aml Tryz.f223 (fun R kk x0 K=>TW x0 (fun a0=>K [tB a0] none)) o58 (ek _ _ _ _) Tryz.func223 (by kernel_rfl) rfl (fun _ _ _ _ _ _ h=>h _ _) (fun _ _ _ _=>by kernel_rfl) fun R kk e x0 K=>by
 simp only[sU,TW,aF]
def amk:Env:=e0 [.str,(.int .i64)]
def HS:ah:=HR.add 203 [.str,(.int .i64)] (dw .str (.int .i64) sT (fun _ r K=>K [tI r.1,tI r.2.1,tI r.2.2] none))
theorem o60:aO Tryz.prog HS:=dD amk Tryz.f203 (fun R kk x0 x1 K=>TV x0 x1 (fun a0 a1 a2=>K [tI a0,tI a1,tI a2] none)) o59 (ek _ _ _ _) Tryz.func203 (by kernel_rfl) rfl (fun _ _ _ _ _ _ h=>h _ _) (fun _ _ _ _ _=>by kernel_rfl) fun R kk e x0 x1 K=>by
 simp only[sT,TV,aF]
def WX:Env:=e0 [(.int .i64)]
def vW:ah:=HS.add 224 [(.int .i64)] (cK (.int .i64) Q4 (fun _ r K=>K [tI r] none))
theorem o61:aO Tryz.prog vW:=cM WX Tryz.f224 (fun R kk x0 K=>oP x0 (fun a0=>K [tI a0] none)) o60 (ek _ _ _ _) Tryz.func224 (by kernel_rfl) rfl (fun _ _ _ _ _ _ h=>h _ _) (fun _ _ _ _=>by kernel_rfl) fun R kk e x0 K=>by
 simp only[Q4,oP,aF]
def vv:Env:=b8.env (fun i=>bif Nat.beq i 14 then [0,1,7,8,44,45] else []) (fun i=>bif Nat.beq i 14 then [1,7,8] else []) [] [.str,(.int .i64)]
def oK(a:ByteArray)(b c d e f:Int):Option R:=aB (ev vv (vW R) kk (sub [1,1,1,1,1,1,1,0,1,0,0] (cd Tryz.f204))) [0,1,7,8,44,45] [1,7,8] k ⟨[tS a]::[tI b]::uS 5 ([tI c]::[tI d]::uS 35 ([tI e]::[tI f]::uS 21 [])),nS 68 []⟩ J
def zzs(a b c:Int):State:=⟨uS 1 ([tI a]::uS 5 ([tI b]::[tI c]::uS 58 [])),nS 68 []⟩
def x6:KX R:=(zi 0 (aU vv (vW R) kk (sub [1,1,1,1,1,1,1,1] (cd Tryz.f204)) (aT vv Tryz.f204.results.toList none K)))
theorem GO(a:ByteArray)(b c d e f:Int):oK R kk (k+1) J a b c d e f=
 kL a b c d e f (oK R kk k J) (fun a0 a1 a2=>J (.exit 0) (zzs a0 a1 a2)):=by kernel_rfl
theorem akq(a b c:Int):x6 R kk K (.exit 0) (zzs a b c)=
 kM a b c (fun a0 a1 a2=>K [tI a0,tI a1,tI a2] none):=by kernel_rfl
theorem amw{kk:Nat}(hF:kk=ai)(nY:ByteArray)(Bi t7 t8 t44 t45:Int):oK R kk k J nY Bi t7 t8 t44 t45=(eK k nY Bi t7 t8 t44 t45).bind fun e=>J (.exit 0) (zzs e.1 e.2.1 e.2.2):=by
 induction k generalizing nY Bi t7 t8 t44 t45 with
 |zero=>rfl
 |succ k ih=>
  rw[GO]
  simp only[eK,kL,ih,aF]
def vX:ah:=vW.add 204 [.str,(.int .i64)] (dw .str (.int .i64) Q3 (fun _ r K=>K [tI r.1,tI r.2.1,tI r.2.2] none))
theorem o62:aO Tryz.prog vX:=dD vv Tryz.f204 (fun R kk x0 x1 K=>kK x0 x1 (fun a0 a1 a2=>K [tI a0,tI a1,tI a2] none) (fun a0 a1 a2 a3 a4 a5=>oK R kk kk (x6 R kk K) a0 a1 a2 a3 a4 a5)) o61 (ek _ _ _ _) Tryz.func204 (by kernel_rfl) rfl (fun _ _ _ _ _ _ h=>h _ _) (fun _ _ _ _ _=>by kernel_rfl) fun R kk e x0 x1 K=>by
 simp only[Q3,abA,kM,amw (hF:=e),akq,aF,<-e]
def Vm:Env:=b8.env (fun i=>bif Nat.beq i 4 then [0,5,6,7,13] else []) (fun i=>bif Nat.beq i 4 then [2,3,4,5] else []) [] [.str]
def TX(a:ByteArray)(b:ap)(c:Int)(d:Bf):Option R:=aB (ev Vm (vX R) kk (sub [1,1,1,0,1,0,0] (cd Tryz.f153))) [0,5,6,7,13] [2,3,4,5] k ⟨[tS a]::uS 4 ([.ak (.sl 245 (.pair (.int .i64) (.pair .str .unit))) b [[]]]::[.ptr 14 (.aG .mp (.int .i64) .bool) []]::[tI c]::uS 5 ([.ptr 14 (.aG .mp (.int .i64) .bool) []]::uS 58 [])),nS 14 ((some ⟨(.aG .mp (.int .i64) .bool),d,[]⟩)::nS 58 [])⟩ J
def zfr(a:ap)(b c:Int)(d:ap):State:=⟨uS 2 ([.ak (.sl 245 (.pair (.int .i64) (.pair .str .unit))) a [[]]]::[tI b]::[tI c]::[.ak (.sl 245 (.pair (.int .i64) (.pair .str .unit))) d [[]]]::uS 66 []),nS 73 []⟩
def zfs(a:ap):State:=⟨uS 5 ([.ak (.sl 245 (.pair (.int .i64) (.pair .str .unit))) a [[]]]::uS 66 []),nS 73 []⟩
def zz1:KX R:=(zi 0 (aU Vm (vX R) kk (sub [1,1,1,1] (cd Tryz.f153)) (aT Vm Tryz.f153.results.toList none K)))
theorem akb(a:ByteArray)(b:ap)(c:Int)(d:Bf):TX R kk (k+1) J a b c d=
 TZ a b c d (fun a0 a1 a2 a3=>J .ret (zfr a0 a1 a2 a3)) (TX R kk k J) (fun a0=>J (.exit 0) (zfs a0)):=by kernel_rfl
theorem adX(a:ap)(b c:Int)(d:ap):zz1 R kk K .ret (zfr a b c d)=
 zz2 a b c d (fun a0 a1 a2=>K [.ak (.sl 245 (.pair (.int .i64) (.pair .str .unit))) a0 [[]],tI a1,tI a2] none):=by kernel_rfl
theorem adY(a:ap):zz1 R kk K (.exit 0) (zfs a)=
 zz3 a (fun a0 a1 a2=>K [.ak (.sl 245 (.pair (.int .i64) (.pair .str .unit))) a0 [],tI a1,tI a2] none):=by kernel_rfl
theorem ag7{kk:Nat}(hF:kk=ai)(nY:ByteArray)(t5:ap)(t7:Int)(jM:Bf):TX R kk k J nY t5 t7 jM=(FH k nY t5 t7 jM).bind fun e=>(Sum.elim (fun(we:qE)=>J .ret (zfr we.1 we.2.1 we.2.2.1 we.2.2.2)) (fun(we:ap)=>J (.exit 0) (zfs we)) e):=by
 induction k generalizing nY t5 t7 jM with
 |zero=>rfl
 |succ k ih=>
  rw[akb]
  simp only[FH,TZ,ih,aF]
def HT:ah:=vX.add 153 [.str] (cK .str sV (fun _ r K=>(Sum.elim (fun(wr:jf)=>K [.ak (.sl 245 (.pair (.int .i64) (.pair .str .unit))) wr.1 [[]],tI wr.2.1,tI wr.2.2] none) (fun(wr:jf)=>K [.ak (.sl 245 (.pair (.int .i64) (.pair .str .unit))) wr.1 [],tI wr.2.1,tI wr.2.2] none) r)))
theorem o63:aO Tryz.prog HT:=cM Vm Tryz.f153 (fun R kk x0 K=>TY x0 (TX R kk kk (zz1 R kk K))) o62 (ek _ _ _ _) Tryz.func153 (by kernel_rfl) rfl (fun _ _ _ _ _ _ h=>Pp (fun _=>h _ _) (fun _=>h _ _)) (fun _ _ _ _=>by kernel_rfl) fun R kk e x0 K=>by
 simp only[sV,TY,zz2,zz3,ag7 (hF:=e),adX,adY,aF,<-e]
def ame:Env:=e0 [cH,.str]
def HU:ah:=HT.add 100 [cH,.str] (dw cH .str bW (fun _ r K=>K [tI r] none))
theorem o64:aO Tryz.prog HU:=dD ame Tryz.f100 (fun R kk x0 x1 K=>TG x0 x1 (fun a0=>K [tI a0] none)) o63 (ek _ _ _ _) Tryz.func100 (by kernel_rfl) rfl (fun _ _ _ _ _ _ h=>h _ _) (fun _ _ _ _ _=>by kernel_rfl) fun R kk e x0 x1 K=>by
 simp only[bW,TG,aF]
def al1:Env:=e0 [cr,(.int .i64),cH]
def qD:ah:=HU.add 71 [cr,(.int .i64),cH] (kb cr (.int .i64) cH sJ (fun _ r K=>K [tI r] none))
theorem o65:aO Tryz.prog qD:=ko al1 Tryz.f71 (fun R kk x0 x1 x2 K=>Tc x0 x1 x2 (fun a0=>K [tI a0] none)) o64 (ek _ _ _ _) Tryz.func71 (by kernel_rfl) rfl (fun _ _ _ _ _ _ h=>h _ _) (fun _ _ _ _ _ _=>by kernel_rfl) fun R kk e x0 x1 x2 K=>by
 simp only[sJ,Tc,aF]
def Ew:Env:=b8.env (fun i=>bif Nat.beq i 8 then [1,7,33,34] else bif Nat.beq i 16 then [1,7,11,46,47,48] else []) (fun i=>bif Nat.beq i 8 then [1,2,3,4,7] else bif Nat.beq i 16 then [1,2,3,4,11] else []) [] [cr]
def S3(a b:Int)(c:au)(d:aS):Option R:=aB (ev Ew (qD R) kk (sub [1,1,1,1,0,1,0,0] (cd Tryz.f55))) [1,7,33,34] [1,2,3,4,7] k ⟨uS 1 ([.ptr 2 cr []]::uS 5 ([.ptr 8 cH []]::uS 25 ([tI a]::[tI b]::uS 38 []))),nS 2 ((some ⟨cr,c,[]⟩)::nS 5 ((some ⟨cH,d,[]⟩)::nS 65 []))⟩ J
def zf0(a b c:Int)(d:au)(e:aS):State:=⟨uS 1 ([.ptr 2 cr []]::[tI a]::[tI b]::[tI c]::uS 2 ([.ptr 8 cH []]::uS 65 [])),nS 2 ((some ⟨cr,d,[]⟩)::nS 5 ((some ⟨cH,e,[]⟩)::nS 65 []))⟩
def zf1(a:au)(b:aS):State:=⟨uS 1 ([.ptr 2 cr []]::uS 5 ([.ptr 8 cH []]::uS 65 [])),nS 2 ((some ⟨cr,a,[]⟩)::nS 5 ((some ⟨cH,b,[]⟩)::nS 65 []))⟩
def zxy:KX R:=(zi 0 (aU Ew (qD R) kk (sub [1,1,1,1,1] (cd Tryz.f55)) (aT Ew Tryz.f55.results.toList none K)))
def S4(a:Bool)(b:ap)(c d:Int)(e:au)(f:aS):Option R:=aB (ev Ew (qD R) kk (sub [1,1,1,1,1,1,0,1,0,0] (cd Tryz.f55))) [1,7,11,46,47,48] [1,2,3,4,11] k ⟨uS 1 ([.ptr 2 cr []]::uS 5 ([.ptr 8 cH []]::uS 3 ([tB a]::uS 34 ([.ak (.sl 107 (.pair (.int .i64) (.pair .str .unit))) b []]::[tI c]::[tI d]::uS 24 [])))),nS 2 ((some ⟨cr,e,[]⟩)::nS 5 ((some ⟨cH,f,[]⟩)::nS 65 []))⟩ J
def zf2(a b c:Int)(d:Bool)(e:au):State:=⟨uS 1 ([.ptr 2 cr []]::[tI a]::[tI b]::[tI c]::uS 6 ([tB d]::uS 61 [])),nS 2 ((some ⟨cr,e,[]⟩)::nS 71 [])⟩
def zf3(a:Bool)(b:au):State:=⟨uS 1 ([.ptr 2 cr []]::uS 9 ([tB a]::uS 61 [])),nS 2 ((some ⟨cr,b,[]⟩)::nS 71 [])⟩
def zxz:KX R:=(zi 2 (aU Ew (qD R) kk (sub [1,1,1,1,1,1,1] (cd Tryz.f55)) (aT Ew Tryz.f55.results.toList none K)))
theorem ajV(a b:Int)(c:au)(d:aS):S3 R kk (k+1) J a b c d=
 OY a b c d (fun a0 a1 a2 a3 a4=>J .ret (zf0 a0 a1 a2 a3 a4)) (S3 R kk k J) (fun a0 a1=>J (.exit 0) (zf1 a0 a1)):=by kernel_rfl
theorem adx(a b c:Int)(d:au)(e:aS):zxy R kk K .ret (zf0 a b c d e)=
 zy0 a b c d e (fun a0 a1 a2=>K [tI a0,tI a1,tI a2] none):=by kernel_rfl
theorem ady(a:au)(b:aS):zxy R kk K (.exit 0) (zf1 a b)=
 S6 a b (S4 R kk kk (zxz R kk K)):=by kernel_rfl
theorem ajW(a:Bool)(b:ap)(c d:Int)(e:au)(f:aS):S4 R kk (k+1) J a b c d e f=
 OZ a b c d e f (fun a0 a1 a2 a3 a4=>J .ret (zf2 a0 a1 a2 a3 a4)) (S4 R kk k J) (fun a0 a1=>J (.exit 2) (zf3 a0 a1)):=by kernel_rfl
theorem adz(a b c:Int)(d:Bool)(e:au):zxz R kk K .ret (zf2 a b c d e)=
 zy1 a b c d e (fun a0 a1 a2=>K [tI a0,tI a1,tI a2] none):=by kernel_rfl
theorem adA(a:Bool)(b:au):zxz R kk K (.exit 2) (zf3 a b)=
 S7 a b (fun a0 a1 a2=>K [tI a0,tI a1,tI a2] none):=by kernel_rfl
theorem agP{kk:Nat}(hF:kk=ai)(t33 t34:Int)(cW:au)(iy:aS):S3 R kk k J t33 t34 cW iy=(Eg k t33 t34 cW iy).bind fun e=>(Sum.elim (fun(we:(Int×Int×Int×au×aS))=>J .ret (zf0 we.1 we.2.1 we.2.2.1 we.2.2.2.1 we.2.2.2.2)) (fun(we:(au×aS))=>J (.exit 0) (zf1 we.1 we.2)) e):=by
 induction k generalizing t33 t34 cW iy with
 |zero=>rfl
 |succ k ih=>
  rw[ajV]
  simp only[Eg,OY,ih,aF]
theorem agQ{kk:Nat}(hF:kk=ai)(t11:Bool)(t46:ap)(t47 t48:Int)(cW:au)(iy:aS):S4 R kk k J t11 t46 t47 t48 cW iy=(Eh k t11 t46 t47 t48 cW iy).bind fun e=>(Sum.elim (fun(we:(Int×Int×Int×Bool×au))=>J .ret (zf2 we.1 we.2.1 we.2.2.1 we.2.2.2.1 we.2.2.2.2)) (fun(we:(Bool×au))=>J (.exit 2) (zf3 we.1 we.2)) e):=by
 induction k generalizing t11 t46 t47 t48 cW iy with
 |zero=>rfl
 |succ k ih=>
  rw[ajW]
  simp only[Eh,OZ,ih,aF]
def vY:ah:=qD.add 55 [cr] (cK cr sH (fun _ r K=>K [tI r.1,tI r.2.1,tI r.2.2] none))
theorem o66:aO Tryz.prog vY:=cM Ew Tryz.f55 (fun R kk x0 K=>S5 x0 (fun a0 a1 a2=>K [tI a0,tI a1,tI a2] none) (S3 R kk kk (zxy R kk K))) o65 (ek _ _ _ _) Tryz.func55 (by kernel_rfl) rfl (fun _ _ _ _ _ _ h=>h _ _) (fun _ _ _ _=>by kernel_rfl) fun R kk e x0 K=>by
 simp only[sH,S5,zy0,S6,zy1,S7,agP (hF:=e),agQ (hF:=e),adx,ady,adz,adA,aF,<-e]
def oE:Env:=b8.env (fun i=>bif Nat.beq i 2 then [6] else []) (fun i=>bif Nat.beq i 2 then [2] else []) [] [.str]
def Vs(a:mF):Option R:=aB (ev oE (vY R) kk (sub [1,0,1,0,0] (cd Tryz.f205))) [6] [2] k ⟨uS 6 ([.ptr 7 (.aG .iter .unit .unit) []]::uS 9 []),nS 7 ((some ⟨(.aG .iter .unit .unit),a,[]⟩)::nS 9 [])⟩ J
def zoj(a:Bool):State:=⟨uS 2 ([tB a]::uS 13 []),nS 17 []⟩
def zok:State:=⟨uS 16 [],nS 17 []⟩
def CO:KX R:=(zi 0 (aU oE (vY R) kk (sub [1,1] (cd Tryz.f205)) (aT oE Tryz.f205.results.toList none K)))
theorem amq(a:mF):Vs R kk (k+1) J a=
 Vu a (fun a0=>J .ret (zoj a0)) (Vs R kk k J) (J (.exit 0) (zok)):=by kernel_rfl
theorem ahi(a:Bool):CO R kk K .ret (zoj a)=
 z141 a (fun a0=>K [tB a0] none):=by kernel_rfl
theorem ahj:CO R kk K (.exit 0) (zok)=
 CP (fun a0=>K [tB a0] none):=by kernel_rfl
theorem akl{kk:Nat}(hF:kk=ai)(jM:mF):Vs R kk k J jM=(FR k jM).bind fun e=>(Sum.elim (fun(we:Bool)=>J .ret (zoj we)) (fun(we:Unit)=>J (.exit 0) (zok)) e):=by
 induction k generalizing jM with
 |zero=>rfl
 |succ k ih=>
  rw[amq]
  simp only[FR,Vu,ih,aF]
def HV:ah:=vY.add 205 [.str] (cK .str xZ (fun _ r K=>K [tB r] none))
theorem o67:aO Tryz.prog HV:=cM oE Tryz.f205 (fun R kk x0 K=>Vt x0 (Vs R kk kk (CO R kk K))) o66 (ek _ _ _ _) Tryz.func205 (by kernel_rfl) rfl (fun _ _ _ _ _ _ h=>h _ _) (fun _ _ _ _=>by kernel_rfl) fun R kk e x0 K=>by
 simp only[xZ,Vt,z141,CP,akl (hF:=e),ahi,ahj,aF,<-e]
def alV:Env:=e0 [.str]
def HW:ah:=HV.add 154 [.str] (cK .str nM (fun _ r K=>K [tB r] none))
theorem o68:aO Tryz.prog HW:=cM alV Tryz.f154 (fun R kk x0 K=>SR x0 (fun a0=>K [tB a0] none)) o67 (ek _ _ _ _) Tryz.func154 (by kernel_rfl) rfl (fun _ _ _ _ _ _ h=>h _ _) (fun _ _ _ _=>by kernel_rfl) fun R kk e x0 K=>by
 simp only[nM,SR,aF]
def alW:Env:=e0 [.str]
def HX:ah:=HW.add 101 [.str] (cK .str jc (fun _ r K=>K [tI r.1,tB r.2] none))
theorem o69:aO Tryz.prog HX:=cM alW Tryz.f101 (fun R kk x0 K=>SS x0 (fun a0 a1=>K [tI a0,tB a1] none)) o68 (ek _ _ _ _) Tryz.func101 (by kernel_rfl) rfl (fun _ _ _ _ _ _ h=>h _ _) (fun _ _ _ _=>by kernel_rfl) fun R kk e x0 K=>by
 simp only[jc,SS,aF]
def alT:Env:=e0 [.str]
def HY:ah:=HX.add 102 [.str] (cK .str nL (fun _ r K=>K [tB r] none))
theorem o70:aO Tryz.prog HY:=cM alT Tryz.f102 (fun R kk x0 K=>SP x0 (fun a0=>K [tB a0] none)) o69 (ek _ _ _ _) Tryz.func102 (by kernel_rfl) rfl (fun _ _ _ _ _ _ h=>h _ _) (fun _ _ _ _=>by kernel_rfl) fun R kk e x0 K=>by
 simp only[nL,SP,aF]
def amr:Env:=e0 [(.pair .str (.pair .str .unit)),aK,aK]
def HZ:ah:=HY.add 72 [(.pair .str (.pair .str .unit)),aK,aK] (kb (.pair .str (.pair .str .unit)) aK aK nT (fun _ r K=>K [tB r] none))
theorem o71:aO Tryz.prog HZ:=ko amr Tryz.f72 (fun R kk x0 x1 x2 K=>Ul x0 x1 x2 (fun a0=>K [tB a0] none)) o70 (ek _ _ _ _) Tryz.func72 (by kernel_rfl) rfl (fun _ _ _ _ _ _ h=>h _ _) (fun _ _ _ _ _ _=>by kernel_rfl) fun R kk e x0 x1 x2 K=>by
 simp only[nT,Ul,aF]
def al8:Env:=b8.env (fun _=>[]) (fun _=>[]) [6,7] [cw,aK,aK]
def H0:ah:=HZ.add 103 [cw,aK,aK] (kb cw aK aK sM (fun _ r K=>K [.ak cH r.1 [],.ak cH r.2.1 [],tI r.2.2] none))
theorem o72:aO Tryz.prog H0:=ko al8 Tryz.f103 (fun R kk x0 x1 x2 K=>Tm x0 x1 x2 (fun a0 a1 a2=>K [.ak cH a0 [],.ak cH a1 [],tI a2] none)) o71 (ek _ _ _ _) Tryz.func103 (by kernel_rfl) rfl (fun _ _ _ _ _ _ h=>h _ _) (fun _ _ _ _ _ _=>by kernel_rfl) fun R kk e x0 x1 x2 K=>by
 simp only[sM,Tm,aF]
def Gl:Env:=e0 [(.int .i64),(.int .i64)]
def H2:ah:=H0.add 206 [(.int .i64),(.int .i64)] (dw (.int .i64) (.int .i64) Gk (fun _ r K=>K [tB r] none))
theorem o73:aO Tryz.prog H2:=dD Gl Tryz.f206 (fun R kk x0 x1 K=>U7 x0 x1 (fun a0=>K [tB a0] none)) o72 (ek _ _ _ _) Tryz.func206 (by kernel_rfl) rfl (fun _ _ _ _ _ _ h=>h _ _) (fun _ _ _ _ _=>by kernel_rfl) fun R kk e x0 x1 K=>by
 simp only[Gk,U7,aF]
def amg:Env:=e0 [(.int .i64),(.int .i64)]
def H3:ah:=H2.add 155 [(.int .i64),(.int .i64)] (dw (.int .i64) (.int .i64) vq (fun _ r K=>K [tB r] none))
theorem o74:aO Tryz.prog H3:=dD amg Tryz.f155 (fun R kk x0 x1 K=>TI x0 x1 (fun a0=>K [tB a0] none)) o73 (ek _ _ _ _) Tryz.func155 (by kernel_rfl) rfl (fun _ _ _ _ _ _ h=>h _ _) (fun _ _ _ _ _=>by kernel_rfl) fun R kk e x0 x1 K=>by
 simp only[vq,TI,aF]
def amf:Env:=e0 [cH,cH]
def H4:ah:=H3.add 104 [cH,cH] (dw cH cH lA (fun _ r K=>K [tB r] none))
theorem o75:aO Tryz.prog H4:=dD amf Tryz.f104 (fun R kk x0 x1 K=>TH x0 x1 (fun a0=>K [tB a0] none)) o74 (ek _ _ _ _) Tryz.func104 (by kernel_rfl) rfl (fun _ _ _ _ _ _ h=>h _ _) (fun _ _ _ _ _=>by kernel_rfl) fun R kk e x0 x1 K=>by
 simp only[lA,TH,aF]
def al9:Env:=e0 [cH]
def vZ:ah:=H4.add 105 [cH] (cK cH jd (fun _ r K=>K [tB r] none))
theorem o76:aO Tryz.prog vZ:=cM al9 Tryz.f105 (fun R kk x0 K=>Tn x0 (fun a0=>K [tB a0] none)) o75 (ek _ _ _ _) Tryz.func105 (by kernel_rfl) rfl (fun _ _ _ _ _ _ h=>h _ _) (fun _ _ _ _=>by kernel_rfl) fun R kk e x0 K=>by
 simp only[jd,Tn,aF]
def oC:Env:=b8.env (fun i=>bif Nat.beq i 5 then [4,10,11,12,13] else []) (fun i=>bif Nat.beq i 5 then [2,3] else []) [] [(.sl 109 (.pair .str (.pair .str .unit)))]
def Vn(a:aN)(b c:Int)(d:gV):Option R:=aB (ev oC (vZ R) kk (sub [1,1,1,0,1,0,0] (cd Tryz.f156))) [4,10,11,12,13] [2,3] k ⟨uS 4 ([.ptr 11 (.aG .mp .str .bool) []]::uS 5 ([.ptr 11 (.aG .mp .str .bool) []]::[.ak (.sl 109 (.pair .str (.pair .str .unit))) a []]::[tI b]::[tI c]::uS 13 [])),nS 11 ((some ⟨(.aG .mp .str .bool),d,[]⟩)::nS 16 [])⟩ J
def zoh(a b:Int):State:=⟨uS 2 ([tI a]::[tI b]::uS 23 []),nS 28 []⟩
def zoi:State:=⟨uS 27 [],nS 28 []⟩
def CK:KX R:=(zi 0 (aU oC (vZ R) kk (sub [1,1,1,1] (cd Tryz.f156)) (aT oC Tryz.f156.results.toList none K)))
theorem amn(a:aN)(b c:Int)(d:gV):Vn R kk (k+1) J a b c d=
 CL a b c d (fun a0 a1=>J .ret (zoh a0 a1)) (Vn R kk k J) (J (.exit 0) (zoi)):=by kernel_rfl
theorem ag8(a b:Int):CK R kk K .ret (zoh a b)=
 CM a b (fun a0 a1=>K [tI a0,tI a1] none):=by kernel_rfl
theorem ag9:CK R kk K (.exit 0) (zoi)=
 CN (fun a0 a1=>K [tI a0,tI a1] none):=by kernel_rfl
theorem akc{kk:Nat}(hF:kk=ai)(t11:aN)(t12 t13:Int)(cN:gV):Vn R kk k J t11 t12 t13 cN=(Pv k t11 t12 t13 cN).bind fun e=>(Sum.elim (fun(we:(Int×Int))=>J .ret (zoh we.1 we.2)) (fun(we:Unit)=>J (.exit 0) (zoi)) e):=by
 induction k generalizing t11 t12 t13 cN with
 |zero=>rfl
 |succ k ih=>
  rw[amn]
  simp only[Pv,CL,ih,aF]
def wg:ah:=vZ.add 156 [(.sl 109 (.pair .str (.pair .str .unit)))] (cK (.sl 109 (.pair .str (.pair .str .unit))) Gr (fun _ r K=>K [tI r.1,tI r.2] none))
theorem o77:aO Tryz.prog wg:=cM oC Tryz.f156 (fun R kk x0 K=>Vo x0 (fun a0 a1=>K [tI a0,tI a1] none) (Vn R kk kk (CK R kk K))) o76 (ek _ _ _ _) Tryz.func156 (by kernel_rfl) rfl (fun _ _ _ _ _ _ h=>h _ _) (fun _ _ _ _=>by kernel_rfl) fun R kk e x0 K=>by
 simp only[Gr,Vo,CM,CN,akc (hF:=e),ag8,ag9,aF,<-e]
def Va:Env:=b8.env (fun i=>bif Nat.beq i 5 then [4,5,25,26,27] else []) (fun i=>bif Nat.beq i 5 then [6] else []) [] [(.sl 109 (.pair .str (.pair .str .unit))),cH,cH]
def Tp(a:aN)(b c:Int)(d e:aS):Option R:=aB (ev Va (wg R) kk (sub [1,1,0,1,0,0] (cd Tryz.f106))) [4,5,25,26,27] [6] k ⟨uS 4 ([.ptr 5 cH []]::[.ptr 6 cH []]::uS 19 ([.ak (.sl 109 (.pair .str (.pair .str .unit))) a []]::[tI b]::[tI c]::uS 18 [])),nS 5 ((some ⟨cH,d,[]⟩)::(some ⟨cH,e,[]⟩)::nS 40 [])⟩ J
def zfa(a:Int):State:=⟨uS 6 ([tI a]::uS 39 []),nS 47 []⟩
def zfb:State:=⟨uS 46 [],nS 47 []⟩
def zyb:KX R:=(zi 0 (aU Va (wg R) kk (sub [1,1,1] (cd Tryz.f106)) (aT Va Tryz.f106.results.toList none K)))
theorem aj0(a:aN)(b c:Int)(d e:aS):Tp R kk (k+1) J a b c d e=
 zyc a b c d e (fun a0=>J .ret (zfa a0)) (Tp R kk k J) (J (.exit 0) (zfb)):=by kernel_rfl
theorem adH(a:Int):zyb R kk K .ret (zfa a)=
 zyd a (fun a0=>K [tI a0] none):=by kernel_rfl
theorem adI:zyb R kk K (.exit 0) (zfb)=
 zye (fun a0=>K [tI a0] none):=by kernel_rfl
theorem agU{kk:Nat}(hF:kk=ai)(t25:aN)(t26 t27:Int)(cN dS:aS):Tp R kk k J t25 t26 t27 cN dS=(O1 k t25 t26 t27 cN dS).bind fun e=>(Sum.elim (fun(we:Int)=>J .ret (zfa we)) (fun(we:Unit)=>J (.exit 0) (zfb)) e):=by
 induction k generalizing t25 t26 t27 cN dS with
 |zero=>rfl
 |succ k ih=>
  rw[aj0]
  simp only[O1,zyc,ih,aF]
def H5:ah:=wg.add 106 [(.sl 109 (.pair .str (.pair .str .unit))),cH,cH] (kb (.sl 109 (.pair .str (.pair .str .unit))) cH cH mw (fun _ r K=>K [tI r] none))
theorem o78:aO Tryz.prog H5:=ko Va Tryz.f106 (fun R kk x0 x1 x2 K=>Tq x0 x1 x2 (fun a0=>K [tI a0] none) (Tp R kk kk (zyb R kk K))) o77 (ek _ _ _ _) Tryz.func106 (by kernel_rfl) rfl (fun _ _ _ _ _ _ h=>h _ _) (fun _ _ _ _ _ _=>by kernel_rfl) fun R kk e x0 x1 x2 K=>by
 simp only[mw,Tq,zyd,zye,agU (hF:=e),adH,adI,aF,<-e]
def al7:Env:=e0 [cw,aK,aK]
def H6:ah:=H5.add 73 [cw,aK,aK] (kb cw aK aK nO (fun _ r K=>K [tI r] none))
theorem o79:aO Tryz.prog H6:=ko al7 Tryz.f73 (fun R kk x0 x1 x2 K=>Tl x0 x1 x2 (fun a0=>K [tI a0] none)) o78 (ek _ _ _ _) Tryz.func73 (by kernel_rfl) rfl (fun _ _ _ _ _ _ h=>h _ _) (fun _ _ _ _ _ _=>by kernel_rfl) fun R kk e x0 x1 x2 K=>by
 simp only[nO,Tl,aF]
def GH:Env:=b8.env (fun _=>[]) (fun _=>[]) [2] [(.int .i64)]
def H7:ah:=H6.add 157 [(.int .i64)] (cK (.int .i64) EO (fun _ r K=>K [.ak (.pair (.int .u64) (.pair (.int .u64) .unit)) r []] none))
theorem o80:aO Tryz.prog H7:=cM GH Tryz.f157 (fun R kk x0 K=>VJ x0 (fun a0=>K [.ak (.pair (.int .u64) (.pair (.int .u64) .unit)) a0 []] none)) o79 (ek _ _ _ _) Tryz.func157 (by kernel_rfl) rfl (fun _ _ _ _ _ _ h=>h _ _) (fun _ _ _ _=>by kernel_rfl) fun R kk e x0 K=>by
 simp only[EO,VJ,aF]
def Gy:Env:=b8.env (fun _=>[]) (fun _=>[]) [4] [(.pair (.int .u64) (.pair (.int .u64) .unit)),(.pair (.int .u64) (.pair (.int .u64) .unit))]
def H8:ah:=H7.add 76 [(.pair (.int .u64) (.pair (.int .u64) .unit)),(.pair (.int .u64) (.pair (.int .u64) .unit))] (dw (.pair (.int .u64) (.pair (.int .u64) .unit)) (.pair (.int .u64) (.pair (.int .u64) .unit)) sY (fun _ r K=>K [.ak (.pair (.int .u64) (.pair (.int .u64) .unit)) r []] none))
theorem o81:aO Tryz.prog H8:=dD Gy Tryz.f76 (fun R kk x0 x1 K=>VF x0 x1 (fun a0=>K [.ak (.pair (.int .u64) (.pair (.int .u64) .unit)) a0 []] none)) o80 (ek _ _ _ _) Tryz.func76 (by kernel_rfl) rfl (fun _ _ _ _ _ _ h=>h _ _) (fun _ _ _ _ _=>by kernel_rfl) fun R kk e x0 x1 K=>by
 simp only[sY,VF,aF]
def GG:Env:=b8.env (fun _=>[]) (fun _=>[]) [4] [(.pair (.int .u64) (.pair (.int .u64) .unit)),(.int .i64)]
def wh:ah:=H8.add 107 [(.pair (.int .u64) (.pair (.int .u64) .unit)),(.int .i64)] (dw (.pair (.int .u64) (.pair (.int .u64) .unit)) (.int .i64) x5 (fun _ r K=>K [.ak (.pair (.int .u64) (.pair (.int .u64) .unit)) r []] none))
theorem o82:aO Tryz.prog wh:=dD GG Tryz.f107 (fun R kk x0 x1 K=>VI x0 x1 (fun a0=>K [.ak (.pair (.int .u64) (.pair (.int .u64) .unit)) a0 []] none)) o81 (ek _ _ _ _) Tryz.func107 (by kernel_rfl) rfl (fun _ _ _ _ _ _ h=>h _ _) (fun _ _ _ _ _=>by kernel_rfl) fun R kk e x0 x1 K=>by
 simp only[x5,VI,aF]
def oH:Env:=b8.env (fun i=>bif Nat.beq i 3 then [2,3,6,7,8] else []) (fun i=>bif Nat.beq i 3 then [2,3] else []) [2] [(.sl 3 (.int .i64))]
def VC(a:(List Int))(b c:Int)(d e:aQ):Option R:=aB (ev oH (wh R) kk (sub [1,1,0,1,0,0] (cd Tryz.f74))) [2,3,6,7,8] [2,3] k ⟨uS 2 ([.ptr 3 (.pair (.int .u64) (.pair (.int .u64) .unit)) []]::[.ptr 4 (.pair (.int .u64) (.pair (.int .u64) .unit)) []]::uS 2 ([.ak (.sl 3 (.int .i64)) a []]::[tI b]::[tI c]::uS 8 [])),nS 3 ((some ⟨(.pair (.int .u64) (.pair (.int .u64) .unit)),d,[]⟩)::(some ⟨(.pair (.int .u64) (.pair (.int .u64) .unit)),e,[]⟩)::nS 13 [])⟩ J
def zon(a b:aQ):State:=⟨uS 2 ([.ptr 3 (.pair (.int .u64) (.pair (.int .u64) .unit)) []]::[.ptr 4 (.pair (.int .u64) (.pair (.int .u64) .unit)) []]::uS 13 []),nS 3 ((some ⟨(.pair (.int .u64) (.pair (.int .u64) .unit)),a,[]⟩)::(some ⟨(.pair (.int .u64) (.pair (.int .u64) .unit)),b,[]⟩)::nS 13 [])⟩
def Nv:KX R:=(zi 0 (aU oH (wh R) kk (sub [1,1,1] (cd Tryz.f74)) (aT oH Tryz.f74.results.toList none K)))
theorem amu(a:(List Int))(b c:Int)(d e:aQ):VC R kk (k+1) J a b c d e=
 Px a b c d e (VC R kk k J) (fun a0 a1=>J (.exit 0) (zon a0 a1)):=by kernel_rfl
theorem ahm(a b:aQ):Nv R kk K (.exit 0) (zon a b)=
 VE a b (fun a0=>K [.ak (.pair (.int .u64) (.pair (.int .u64) .unit)) a0 []] none):=by kernel_rfl
theorem ako{kk:Nat}(hF:kk=ai)(t6:(List Int))(t7 t8:Int)(dy c9:aQ):VC R kk k J t6 t7 t8 dy c9=(AU k t6 t7 t8 dy c9).bind fun e=>J (.exit 0) (zon e.1 e.2):=by
 induction k generalizing t6 t7 t8 dy c9 with
 |zero=>rfl
 |succ k ih=>
  rw[amu]
  simp only[AU,Px,ih,aF]
def H9:ah:=wh.add 74 [(.sl 3 (.int .i64))] (cK (.sl 3 (.int .i64)) uG (fun _ r K=>K [.ak (.pair (.int .u64) (.pair (.int .u64) .unit)) r []] none))
theorem o83:aO Tryz.prog H9:=cM oH Tryz.f74 (fun R kk x0 K=>VD x0 (VC R kk kk (Nv R kk K))) o82 (ek _ _ _ _) Tryz.func74 (by kernel_rfl) rfl (fun _ _ _ _ _ _ h=>h _ _) (fun _ _ _ _=>by kernel_rfl) fun R kk e x0 K=>by
 simp only[uG,VD,VE,ako (hF:=e),ahm,aF,<-e]
def Gx:Env:=b8.env (fun _=>[]) (fun _=>[]) [4] [(.pair (.int .u64) (.pair (.int .u64) .unit)),(.pair (.int .u64) (.pair (.int .u64) .unit))]
def mE:ah:=H9.add 75 [(.pair (.int .u64) (.pair (.int .u64) .unit)),(.pair (.int .u64) (.pair (.int .u64) .unit))] (dw (.pair (.int .u64) (.pair (.int .u64) .unit)) (.pair (.int .u64) (.pair (.int .u64) .unit)) rE (fun _ r K=>K [.ak (.pair (.int .u64) (.pair (.int .u64) .unit)) r []] none))
theorem o84:aO Tryz.prog mE:=dD Gx Tryz.f75 (fun R kk x0 x1 K=>Py x0 x1 (fun a0=>K [.ak (.pair (.int .u64) (.pair (.int .u64) .unit)) a0 []] none)) o83 (ek _ _ _ _) Tryz.func75 (by kernel_rfl) rfl (fun _ _ _ _ _ _ h=>h _ _) (fun _ _ _ _ _=>by kernel_rfl) fun R kk e x0 x1 K=>by
 simp only[rE,Py,aF]
def vd:Env:=b8.env (fun i=>bif Nat.beq i 2 then [3,4,5,26,27,28] else bif Nat.beq i 12 then [3,4,5,13,46,48,49,50] else bif Nat.beq i 24 then [4,5,16,17,77,78,79] else []) (fun i=>bif Nat.beq i 2 then [3,4,5,6,7,8] else bif Nat.beq i 12 then [3,4,5,6,7,8] else bif Nat.beq i 24 then [6,7,8] else []) [] [cB,aK,aK]
def T6(a:nW)(b c:Int)(d:ay)(e f:af):Option R:=aB (ev vd (mE R) kk (sub [1,0,1,0,0] (cd Tryz.f56))) [3,4,5,26,27,28] [3,4,5,6,7,8] k ⟨uS 3 ([.ptr 4 cB []]::[.ptr 5 aK []]::[.ptr 6 aK []]::uS 20 ([.ak (.sl 24 aK) a [[]]]::[tI b]::[tI c]::uS 92 [])),nS 4 ((some ⟨cB,d,[]⟩)::(some ⟨aK,e,[]⟩)::(some ⟨aK,f,[]⟩)::nS 115 [])⟩ J
def zfv(a b c:Int)(d:ay)(e f:af):State:=⟨uS 3 ([.ptr 4 cB []]::[.ptr 5 aK []]::[.ptr 6 aK []]::[tI a]::[tI b]::[tI c]::uS 112 []),nS 4 ((some ⟨cB,d,[]⟩)::(some ⟨aK,e,[]⟩)::(some ⟨aK,f,[]⟩)::nS 115 [])⟩
def zfw(a:ay)(b c:af):State:=⟨uS 3 ([.ptr 4 cB []]::[.ptr 5 aK []]::[.ptr 6 aK []]::uS 115 []),nS 4 ((some ⟨cB,a,[]⟩)::(some ⟨aK,b,[]⟩)::(some ⟨aK,c,[]⟩)::nS 115 [])⟩
def zz6:KX R:=(zi 0 (aU vd (mE R) kk (sub [1,1] (cd Tryz.f56)) (aT vd Tryz.f56.results.toList none K)))
def T7(a:aN)(b c:Int)(d:ay)(e f:af)(g:gV):Option R:=aB (ev vd (mE R) kk (sub [1,1,1,1,0,1,0,0] (cd Tryz.f56))) [3,4,5,13,46,48,49,50] [3,4,5,6,7,8] k ⟨uS 3 ([.ptr 4 cB []]::[.ptr 5 aK []]::[.ptr 6 aK []]::uS 7 ([.ptr 47 (.aG .mp .str .bool) []]::uS 32 ([.ptr 47 (.aG .mp .str .bool) []]::uS 1 ([.ak (.sl 109 (.pair .str (.pair .str .unit))) a []]::[tI b]::[tI c]::uS 70 [])))),nS 4 ((some ⟨cB,d,[]⟩)::(some ⟨aK,e,[]⟩)::(some ⟨aK,f,[]⟩)::nS 40 ((some ⟨(.aG .mp .str .bool),g,[]⟩)::nS 74 []))⟩ J
def zfx(a b c:Int)(d:ay)(e f:af):State:=⟨uS 3 ([.ptr 4 cB []]::[.ptr 5 aK []]::[.ptr 6 aK []]::[tI a]::[tI b]::[tI c]::uS 112 []),nS 4 ((some ⟨cB,d,[]⟩)::(some ⟨aK,e,[]⟩)::(some ⟨aK,f,[]⟩)::nS 115 [])⟩
def zfy(a:ay)(b c:af):State:=⟨uS 3 ([.ptr 4 cB []]::[.ptr 5 aK []]::[.ptr 6 aK []]::uS 115 []),nS 4 ((some ⟨cB,a,[]⟩)::(some ⟨aK,b,[]⟩)::(some ⟨aK,c,[]⟩)::nS 115 [])⟩
def zz7:KX R:=(zi 2 (aU vd (mE R) kk (sub [1,1,1,1,1] (cd Tryz.f56)) (aT vd Tryz.f56.results.toList none K)))
def T8(a:bQ)(b c:Int)(d e:af)(f g:aQ):Option R:=aB (ev vd (mE R) kk (sub [1,1,1,1,1,1,1,0,1,0,0] (cd Tryz.f56))) [4,5,16,17,77,78,79] [6,7,8] k ⟨uS 4 ([.ptr 5 aK []]::[.ptr 6 aK []]::uS 10 ([.ptr 17 (.pair (.int .u64) (.pair (.int .u64) .unit)) []]::[.ptr 18 (.pair (.int .u64) (.pair (.int .u64) .unit)) []]::uS 59 ([.ak (.sl 102 cw) a []]::[tI b]::[tI c]::uS 41 []))),nS 5 ((some ⟨aK,d,[]⟩)::(some ⟨aK,e,[]⟩)::nS 10 ((some ⟨(.pair (.int .u64) (.pair (.int .u64) .unit)),f,[]⟩)::(some ⟨(.pair (.int .u64) (.pair (.int .u64) .unit)),g,[]⟩)::nS 103 []))⟩ J
def zfz(a b c:Int):State:=⟨uS 6 ([tI a]::[tI b]::[tI c]::uS 112 []),nS 122 []⟩
def zg0:State:=⟨uS 121 [],nS 122 []⟩
def zz8:KX R:=(zi 5 (aU vd (mE R) kk (sub [1,1,1,1,1,1,1,1] (cd Tryz.f56)) (aT vd Tryz.f56.results.toList none K)))
theorem ake(a:nW)(b c:Int)(d:ay)(e f:af):T6 R kk (k+1) J a b c d e f=
 Ua a b c d e f (fun a0 a1 a2 a3 a4 a5=>J .ret (zfv a0 a1 a2 a3 a4 a5)) (T6 R kk k J) (fun a0 a1 a2=>J (.exit 0) (zfw a0 a1 a2)):=by kernel_rfl
theorem ad0(a b c:Int)(d:ay)(e f:af):zz6 R kk K .ret (zfv a b c d e f)=
 zz9 a b c d e f (fun a0 a1 a2=>K [tI a0,tI a1,tI a2] none):=by kernel_rfl
theorem ad1(a:ay)(b c:af):zz6 R kk K (.exit 0) (zfw a b c)=
 Ub a b c (fun a0 a1 a2=>K [tI a0,tI a1,tI a2] none) (T7 R kk kk (zz7 R kk K)):=by kernel_rfl
theorem akf(a:aN)(b c:Int)(d:ay)(e f:af)(g:gV):T7 R kk (k+1) J a b c d e f g=
 zza a b c d e f g (fun a0 a1 a2 a3 a4 a5=>J .ret (zfx a0 a1 a2 a3 a4 a5)) (T7 R kk k J) (fun a0 a1 a2=>J (.exit 2) (zfy a0 a1 a2)):=by kernel_rfl
theorem ad2(a b c:Int)(d:ay)(e f:af):zz7 R kk K .ret (zfx a b c d e f)=
 zzb a b c d e f (fun a0 a1 a2=>K [tI a0,tI a1,tI a2] none):=by kernel_rfl
theorem ad3(a:ay)(b c:af):zz7 R kk K (.exit 2) (zfy a b c)=
 Uc a b c (fun a0 a1 a2=>K [tI a0,tI a1,tI a2] none) (T8 R kk kk (zz8 R kk K)):=by kernel_rfl
end
end Go.Proofs.YtpjkbbihjoflnaaGreatDoor

