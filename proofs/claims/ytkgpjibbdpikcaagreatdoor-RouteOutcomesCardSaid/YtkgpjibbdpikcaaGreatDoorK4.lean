/- No condition. -/
import Derived.Test.YtkgpjibbdpikcaaGreatDoorK3
import Derived.Test.YtkgpjibbdpikcaaGreatDoorProg
set_option linter.unusedVariables false
set_option linter.unusedSimpArgs false
set_option maxRecDepth 100000
namespace Groat
open Go.IntKind renaming wrap→zW,i64→zI,u8→zU
open Go Go.Ref
def idxR(no:Int):List Rule→Int→Int
 | [],_=> -1
 |r::l,i=>if r.2.1=no then i else idxR no l (i+1)
theorem zen(no:Int):∀(l:List Rule) (i:Int),0≤i→(idxR no l i= -1∧l.find? (fun r=>decide (r.2.1=no))=none)∨(i≤idxR no l i∧idxR no l i<i+l.length∧l.find? (fun r=>decide (r.2.1=no))=some (l.getD (idxR no l i-i).toNat rule0))
 | [],i,_=> .inl ⟨rfl,rfl⟩
 |r::l,i,h=>by
  unfold idxR
  rw[List.find?_cons]
  by_cases e:r.2.1=no
  ·rw[if_pos e,zT e]
   right
   refine⟨by omega,by simp only[List.length_cons];omega,?_⟩
   rw[show(i-i).toNat=0 by omega];rfl
  ·rw[if_neg e,zF e]
   rcases zen no l (i+1) (by omega) with⟨h1,h2⟩|⟨h1,h2,h3⟩
   ·exact .inl ⟨h1,h2⟩
   ·right
    refine⟨by omega,by simp only[List.length_cons];omega,?_⟩
    rw[h3]
    congr 1
    have:(idxR no l (i+1)-i).toNat=(idxR no l (i+1)-(i+1)).toNat+1:=by omega
    rw[this];rfl
def exR(r:Int):Sum Int Unit:=bif decide (r<0) then .inr () else .inl r
theorem z1br(no:Int):∀(l:List Rule) (i:Int),0≤i→runI (fun i (x:Rule) (s:Unit) K=>(bif(decide (x.2.1=no)) then some (Sum.inl i) else K s)) (fun _=>some (Sum.inr ())) l i ()=some (exR (idxR no l i))
 | [],i,_=>rfl
 |x::r,i,h=>by
  rw[runI,idxR]
  by_cases e:x.2.1=no
  ·rw[zT e,zC,if_pos e]
   unfold exR
   rw[zF (by omega)];rfl
  ·rw[zF e,zD,if_neg e]
   exact z1br no r (i+1) (by omega)
theorem z1lt(m:Map)(no:Int)(h:m.2.1.length≤maxLen):Q140 m no=some (idxR no m.2.1 0):=by
 unfold Q140 zmr
 dsimp only
 have:=loopI rule0 m.2.1 h (fun i (x:Rule) (s:Unit) K=>(bif(decide (x.2.1=no)) then some (Sum.inl i) else K s)) (fun _=>some (Sum.inr ()))
  (fun k i s=>zc4 k no i m) (fun k i s=>rfl) ()
 rw[this,z1br no m.2.1 0 (Int.le_refl _),zc]
 unfold exR
 rcases zen no m.2.1 0 (Int.le_refl _) with⟨h1,_⟩|⟨h1,_⟩
 ·rw[h1];rfl
 ·rw[zF (by omega)];rfl
abbrev Out21:=ByteArray×List Val×Map×Msg×Fault
theorem z1d1(m:Map)(b:zf)(t:ByteArray)(hm:MapOk m)(hb:b.2.2.1.length≤maxLen):∀(l:List Val) (i:Int) (s:List Val),s.length+l.length≤1000000→(∀v∈l,v.2.1.size≤1099511627776)→
 (∃f s',z17 m b l= .inl f∧runI (fun i (v:Val) (s:List Val) K=>((Q140 m v.1).bind fun r4=>(bif(decide (r4<(0:Int))) then some (Sum.inl (t,s,m,msg0,((9:Int),v.1,()))) else(zd r4 m.2.1.length ((Q131 (List.getD m.2.1 r4.toNat rule0) b v.2.1).bind fun r5=>(bif(!(decide (r5.2=(0:Int)))) then some (Sum.inl (t,s,m,msg0,(r5.2,v.1,()))) else(bif(decide ((s.length+(List.length ([r5.1]:List Val)))*24≤140737488355328)) then K (s++([r5.1]:List Val)) else none))))))) (fun s=>some (Sum.inr (t,s,m,msg0,zu))) l i s=some (.inl (t,s',m,msg0,f):Sum Out21 Out21))∨
 (∃ys,z17 m b l= .inr ys∧runI (fun i (v:Val) (s:List Val) K=>((Q140 m v.1).bind fun r4=>(bif(decide (r4<(0:Int))) then some (Sum.inl (t,s,m,msg0,((9:Int),v.1,()))) else(zd r4 m.2.1.length ((Q131 (List.getD m.2.1 r4.toNat rule0) b v.2.1).bind fun r5=>(bif(!(decide (r5.2=(0:Int)))) then some (Sum.inl (t,s,m,msg0,(r5.2,v.1,()))) else(bif(decide ((s.length+(List.length ([r5.1]:List Val)))*24≤140737488355328)) then K (s++([r5.1]:List Val)) else none))))))) (fun s=>some (Sum.inr (t,s,m,msg0,zu))) l i s=some (.inr (t,s++ys,m,msg0,zu):Sum Out21 Out21))
 | [],i,s,_,_=> .inr ⟨[],rfl,by simp [runI]⟩
 |v::r,i,s,h,ht=>by
  simp only[List.length_cons] at h
  have hl:=hm.len
  have hv:=ht v List.mem_cons_self
  rw[runI,z1lt m v.1 (by rw[zj];omega),zc,z17]
  unfold findR
  rcases zen v.1 m.2.1 0 (Int.le_refl _) with⟨h1,h2⟩|⟨h1,h2,h3⟩
  ·rw[h1,h2,zT (by omega:(-1:Int)<0)]
   exact .inl ⟨_,s,rfl,rfl⟩
  ·rw[Int.sub_zero] at h3
   have hq:List.getD m.2.1 (idxR v.1 m.2.1 0).toNat rule0∈m.2.1:=by
    rw[List.getD_eq_getElem?_getD,List.getElem?_eq_getElem (by omega)]
    exact List.getElem_mem _
   rw[h3,zF (by omega:¬idxR v.1 m.2.1 0<0),zD,zl h1 (by omega)]
   generalize List.getD m.2.1 (idxR v.1 m.2.1 0).toNat rule0=q at*
   have qp:=(hm.rules q hq).pairs.len
   dsimp only
   rw[z1g6 q b v.2.1 (by rw[zj];omega) hb (by rw[zj];omega),zc]
   generalize zy q b v.2.1=y
   cases decide (y.2=0) with
   |false=>exact .inl ⟨_,s,rfl,rfl⟩
   |true=>
    rw[Bool.not_true,zD,zD,zT (by simp only[List.length_singleton];omega),zC]
    rcases z1d1 m b t hm hb r (i+1) (s++ [y.1]) (by rw[List.length_append,List.length_singleton];omega) (fun w hw=>ht w (List.mem_cons_of_mem _ hw)) with⟨f,s',e1,e2⟩|⟨ys,e1,e2⟩
    ·exact .inl ⟨f,s',by rw[e1],e2⟩
    ·refine .inr ⟨y.1::ys,by rw[e1],?_⟩
     rw[e2,List.append_assoc];rfl
theorem zaa{ρ:Type}(fin:List Val→Option ρ):∀(l:List Rule) (i:Int) (s:List Val),s.length+l.length≤1000000→
 runI (fun i (r:Rule) (s:List Val) K=>(bif(decide (r.1=(3:Int))) then(bif(decide ((s.length+(List.length ([(r.2.2.1,r.2.2.2.1,())]:List Val)))*24≤140737488355328)) then K (s++([(r.2.2.1,r.2.2.2.1,())]:List Val)) else none) else K s)) fin l i s=fin (s++z1b l)
 | [],i,s,_=>by show fin s=_;simp [z1b]
 |r::l,i,s,h=>by
  simp only[List.length_cons] at h
  rw[runI]
  unfold z1b
  rw[List.filter_cons]
  cases decide (r.1=3) with
  |false=>
   rw[zD,if_neg (by decide)]
   exact zaa fin l (i+1) s (by omega)
  |true=>
   rw[zC,if_pos rfl,zT (by simp only[List.length_singleton];omega),zC]
   refine(zaa fin l (i+1) _ (by rw[List.length_append,List.length_singleton];omega)).trans ?_
   rw[List.append_assoc];rfl
theorem zb5{ρ:Type}(no:Int)(fin:Msg→Option ρ):∀(l:List Val) (i:Int) (s:Msg),s.2.1.length+l.length≤1000000000→
 runI (fun i (v:Val) (s:Msg) K=>(bif(decide (v.1=no)) then(bif(decide ((s.2.1.length+(List.length ([v]:List Val)))*24≤140737488355328)) then K (s.1,(s.2.1++([v]:List Val)),()) else none) else K s)) fin l i s=fin (s.1,s.2.1++l.filter (fun v=>decide (v.1=no)),())
 | [],i,s,_=>by show fin s=_;simp
 |v::l,i,s,h=>by
  simp only[List.length_cons] at h
  rw[runI,List.filter_cons]
  cases decide (v.1=no) with
  |false=>
   rw[zD,if_neg (by decide)]
   exact zb5 no fin l (i+1) s (by omega)
  |true=>
   rw[zC,if_pos rfl,zT (by simp only[List.length_singleton];omega),zC]
   refine(zb5 no fin l (i+1) _ (by show(s.2.1++ [v]).length+_≤_;rw[List.length_append,List.length_singleton];omega)).trans ?_
   show fin (s.1,(s.2.1++ [v])++_,())=_
   rw[List.append_assoc];rfl
theorem z1yu(vs:List Val)(hv:vs.length≤1000000)(no:Int)(s:Msg)(h:s.2.1.length+vs.length≤1000000000):z4a FUEL vs no 0 msg0 zu s=some (vs,no,msg0,zu,(s.1,s.2.1++vs.filter (fun v=>decide (v.1=no)),())):=by
 have:=loopJ vnil vs (by rw[zj];omega) (fun i (v:Val) (s:Msg) K=>(bif(decide (v.1=no)) then(bif(decide ((s.2.1.length+(List.length ([v]:List Val)))*24≤140737488355328)) then K (s.1,(s.2.1++([v]:List Val)),()) else none) else K s)) (fun s=>some (vs,no,msg0,zu,s))
  (fun k i s=>z4a k vs no i msg0 zu s) (fun k i s h0 h1=>by
    show z4a (k+1) vs no i msg0 zu s=_
    conv=>lhs;unfold z4a zc3
    rw[zT h1,zC,zl h0 h1,zl h0 h1]) (fun k s=>by
    show z4a (k+1) vs no vs.length msg0 zu s=_
    conv=>lhs;unfold z4a zc3
    rw[zF (by omega),zD]) s
 rw[this,zb5 no _ _ _ _ h]
theorem z1fn(vs:List Val)(hv:vs.length≤1000000):∀(n j k:Nat) (s:Msg),j+n=129→n<k→s.2.1.length+(n+1)*vs.length≤1000000000→z73 k vs (j:Int) msg0 zu s=some (msg0,zu,(s.1,s.2.1++z28 vs n j,()))
 |n,j,0,s,_,hk,_=>by omega
 |0,j,k+1,s,hj,hk,_=>by
  unfold z73 zc2
  rw[zF (by omega),zD]
  simp [z28]
 |n+1,j,k+1,s,hj,hk,h=>by
  unfold z73 zc2
  have hmul:(n+1+1)*vs.length=(n+1)*vs.length+vs.length:=by rw[Nat.add_mul,Nat.one_mul]
  rw[zT (by omega),zC]
  dsimp only
  rw[z1yu vs hv (j:Int) s (by rw[hmul] at h;omega),zc]
  unfold zmp
  dsimp only
  rw[zo (by omega)]
  have hf:(vs.filter fun v=>decide (v.1=(j:Int))).length≤vs.length:=List.length_filter_le _ _
  refine(z1fn vs hv n (j+1) k _ (by omega) (by omega) (by
   show(s.2.1++vs.filter fun v=>decide (v.1=(j:Int))).length+_≤_
   rw[List.length_append]
   rw[hmul] at h
   omega)).trans ?_
  show some (msg0,zu,(s.1,(s.2.1++vs.filter fun v=>decide (v.1=(j:Int)))++z28 vs n (j+1),()))=_
  rw[List.append_assoc]
  rfl
theorem zr3{m:Map}{b:zf}:∀{l ys:List Val},z17 m b l= .inr ys→ys.length=l.length
 | [],ys,h=>by cases h;rfl
 |v::r,ys,h=>by
  rw[z17] at h
  cases hf:findR m v.1 with
  |none=>rw[hf] at h;cases h
  |some q=>
   rw[hf] at h
   dsimp only at h
   cases hz:decide ((zy q b v.2.1).2=0) with
   |false=>rw[hz] at h;cases h
   |true=>
    rw[hz,Bool.not_true,zD] at h
    cases hr:z17 m b r with
    |inl f=>rw[hr] at h;cases h
    |inr zs=>
     rw[hr] at h
     cases h
     rw[List.length_cons,List.length_cons,zr3 hr]
theorem z1gs(l:List Rule):(z1b l).length≤l.length:=by
 unfold z1b
 rw[List.length_map]
 exact List.length_filter_le _ _
theorem z1gk(m:Map)(a b:zf)(h:MapOk m)(ha:a.2.2.1.length≤maxLen)(hb:b.2.2.1.length≤maxLen):Q138 m a b=some (decide ((mapC m a b).1=0)):=by
 unfold Q138 zmh
 rw[zdq m a b h ha hb,zc]
theorem z14m(m:Map)(a b:zf)(x:Msg)(hm:MapOk m)(hm2:m.2.1.length≤300)(hx:MsgOk x)(hx2:x.2.1.length≤200)(ha:a.2.2.1.length≤maxLen)(hb:b.2.2.1.length≤maxLen):Q139 m a b x=some (zdn m a b x):=by
 have hl:=hm.mtis.len
 unfold Q139 zmm zdn
 rw[z1gk m a b hm ha hb,zc]
 cases decide ((mapC m a b).1=0) with
 |false=>rfl
 |true=>
  rw[Bool.not_true,zD,zD,z1g9 a x ha hx,zc]
  cases decide ((msgC a x).1=0) with
  |false=>rfl
  |true=>
   rw[Bool.not_true,zD,zD,zdp _ _ (by rw[zj];omega),zc]
   cases(zp m.1 x.1).2 with
   |false=>rfl
   |true=>
    rw[Bool.not_true,zD,zD]
    dsimp only
    have h1:=loopJ vnil x.2.1 (by rw[zj];omega) (fun i (v:Val) (s:List Val) K=>((Q140 m v.1).bind fun r4=>(bif(decide (r4<(0:Int))) then some (Sum.inl ((zp m.1 x.1).1,s,m,msg0,((9:Int),v.1,()))) else(zd r4 m.2.1.length ((Q131 (List.getD m.2.1 r4.toNat rule0) b v.2.1).bind fun r5=>(bif(!(decide (r5.2=(0:Int)))) then some (Sum.inl ((zp m.1 x.1).1,s,m,msg0,(r5.2,v.1,()))) else(bif(decide ((s.length+(List.length ([r5.1]:List Val)))*24≤140737488355328)) then K (s++([r5.1]:List Val)) else none))))))) (fun s=>some (Sum.inr ((zp m.1 x.1).1,s,m,msg0,zu)))
     (fun k i s=>z4z k (zp m.1 x.1).1 s i m b x msg0 zu msg0) (fun k i s h0 h1=>by
       show z4z (k+1) (zp m.1 x.1).1 s i m b x msg0 zu msg0=_
       conv=>lhs;unfold z4z zc0
       have hw:∀{R:Type} (z:Option R),zd i x.2.1.length z=z:=fun z=>zl h0 h1
       simp only[hw,zT h1,zC]) (fun k s=>by
       show z4z (k+1) (zp m.1 x.1).1 s x.2.1.length m b x msg0 zu msg0=_
       conv=>lhs;unfold z4z zc0
       rw[zF (by omega),zD]) []
    rw[h1]
    rcases z1d1 m b (zp m.1 x.1).1 hm hb x.2.1 0 [] (by simp;omega) hx.txt with⟨f,s',e1,e2⟩|⟨ys,e1,e2⟩
    ·rw[e2,e1];rfl
    ·rw[e2,e1,zc]
     rw[Sum.elim_inr]
     unfold zmn
     dsimp only
     rw[List.nil_append]
     have hys:=zr3 e1
     have h2:=loopJ rule0 m.2.1 (by rw[zj];omega) (fun i (r:Rule) (s:List Val) K=>(bif(decide (r.1=(3:Int))) then(bif(decide ((s.length+(List.length ([(r.2.2.1,r.2.2.2.1,())]:List Val)))*24≤140737488355328)) then K (s++([(r.2.2.1,r.2.2.2.1,())]:List Val)) else none) else K s)) (fun s=>some ((zp m.1 x.1).1,s,msg0,zu))
      (fun k i s=>z50 k (zp m.1 x.1).1 s i m msg0 zu) (fun k i s h0 h1=>by
        show z50 (k+1) (zp m.1 x.1).1 s i m msg0 zu=_
        conv=>lhs;unfold z50 zc1
        have hw:∀{R:Type} (z:Option R),zd i m.2.1.length z=z:=fun z=>zl h0 h1
        simp only[hw,zT h1,zC]) (fun k s=>by
        show z50 (k+1) (zp m.1 x.1).1 s m.2.1.length m msg0 zu=_
        conv=>lhs;unfold z50 zc1
        rw[zF (by omega),zD]) ys
     rw[h2,zaa _ _ _ _ (by omega),zc]
     unfold zmo
     dsimp only
     have hc:=z1gs m.2.1
     have hvs:(ys++z1b m.2.1).length≤500:=by rw[List.length_append];omega
     have h3:=z1fn (ys++z1b m.2.1) (by omega) 127 2 FUEL ((zp m.1 x.1).1,[],()) (by omega) (by rw[zn];omega) (by
      show([]:List Val).length+_≤_
      simp only[List.length_nil]
      omega)
     rw[show((2:Nat):Int)=(2:Int) from rfl] at h3
     rw[h3,zc]
     rfl
end Groat

namespace Groat
open Go.IntKind renaming wrap→zW,i64→zI,u8→zU
open Go Go.Ref
def respM(m:ByteArray):ByteArray:=strOf [ze m 0,ze m 1,ze m 2+1,ze m 3]
theorem z1fc{m:ByteArray}(h:m.size=4):bl m=[ze m 0,ze m 1,ze m 2,ze m 3]:=by
 have hl:(bl m).length=4:=by rw[zg];exact h
 have e:=fun i=>z1h m i
 match hb:bl m,hl with
 | [a,b,c,d],_=>rw[e 0,e 1,e 2,e 3,hb];rfl
theorem z86{m:ByteArray}(h:reqM m=true):zz m=true∧(ze m 2=48∨ze m 2=50):=by
 unfold reqM at h
 rw[Bool.and_eq_true,Bool.or_eq_true,decide_eq_true_eq,decide_eq_true_eq] at h
 exact h
theorem z150{m:ByteArray}(h:reqM m=true):bl (respM m)=[ze m 0,ze m 1,ze m 2+1,ze m 3]∧allD [ze m 0,ze m 1,ze m 2+1,ze m 3]=true:=by
 obtain⟨hr,h2⟩:=z86 h
 have d0:=z38 hr 0 (by decide)
 have d1:=z38 hr 1 (by decide)
 have d3:=z38 hr 3 (by decide)
 have hd:allD [ze m 0,ze m 1,ze m 2+1,ze m 3]=true:=z2a.2 ⟨z23.2 d0,z2a.2 ⟨z23.2 d1,z2a.2 ⟨z23.2 (by omega),z2a.2 ⟨z23.2 d3,rfl⟩⟩⟩⟩
 exact⟨z2j (z160 hd),hd⟩
theorem z1z6{m:ByteArray}(h:reqM m=true):zz (respM m)=true∧verM (respM m)=verM m∧reqM (respM m)=false:=by
 obtain⟨hr,h2⟩:=z86 h
 obtain⟨hb,hd⟩:=z150 h
 have hs:(respM m).size=4:=by rw[←zg,hb];rfl
 have hr2:zz (respM m)=true:=z1i.2 ⟨hs,by rw[hb];exact hd⟩
 have e0:ze (respM m) 0=ze m 0:=by rw[z1h (respM m),hb];rfl
 have e2:ze (respM m) 2=ze m 2+1:=by rw[z1h (respM m),hb];rfl
 refine⟨hr2,?_,?_⟩
 ·unfold verM
  rw[hr,hr2,e0]
 ·unfold reqM
  rw[hr2,e2,zF (by omega),zF (by omega)];rfl
theorem z1dd(m:ByteArray)(h:m.size≤maxLen):Q190 m=some (if reqM m=true then(respM m,true) else(bs [],false)):=by
 unfold Q190 znz
 rw[zdz m h,zc]
 cases hr:reqM m with
 |false=>rfl
 |true=>
  obtain⟨hr1,h2⟩:=z86 hr
  have h4:=(z1i.1 hr1).1
  have hb:=z1fc h4
  have z1:(m.extract 0 2).size=2:=by rw[ByteArray.size_extract];omega
  have z3:(m.extract 3 m.size).size=1:=by rw[ByteArray.size_extract];omega
  have zs:∀x:Int,(strOf [x]).size=1:=fun x=>by rw[z1d];rfl
  have hw:zW zU (ze m 2+1)=ze m 2+1:=by
   rcases h2 with e|e<;>rw[e]<;>decide
  rw[Bool.not_true,zD,show((2:Int)).toNat=2 from rfl,show((3:Int)).toNat=3 from rfl,zT (by omega),zC,show(2:Int)=((2:Nat):Int) from rfl,zh (by omega),hw,zT (by rw[z1,zs];decide),zC,zT (by omega),zC,zT (by rw[z2z,z1,zs,z3];decide),zC,if_pos rfl]
  congr 2
  apply z5f
  rw[z29,z29,z2c,z2c,h4,hb,(z150 hr).1]
  have hx:zq (ze m 2+1):=by unfold zq;omega
  rw[z2j (xs:=[ze m 2+1]) (by simpa using hx)]
  rfl
theorem z17m(m:ByteArray)(hr:reqM m=true):Q115 m=some (respM m):=by
 obtain⟨hr1,h2⟩:=z86 hr
 obtain⟨h4,hd⟩:=z1i.1 hr1
 obtain⟨hb,hdr⟩:=z150 hr
 have hm:=z1fc h4
 have d0:=z38 hr1 0 (by decide)
 have d1:=z38 hr1 1 (by decide)
 have d3:=z38 hr1 3 (by decide)
 unfold Q115 zl7
 have hg:getD' (bl m)=(valD (bl m) 0,true):=by
  unfold getD'
  rw[if_pos ⟨by rw[zg];omega,by rw[zg];omega,hd⟩]
 have hv:valD (bl m) 0=1000*(ze m 0-48)+100*(ze m 1-48)+10*(ze m 2-48)+(ze m 3-48):=by
  rw[hm];unfold valD;simp only[List.foldl];omega
 have hv2:valD [ze m 0,ze m 1,ze m 2+1,ze m 3] 0=valD (bl m) 0+10:=by
  rw[hv];unfold valD;simp only[List.foldl];omega
 have hw:zW zI (valD (bl m) 0+10)=valD (bl m) 0+10:=zi (by omega) (by omega)
 obtain⟨g1,g2⟩:=ztk 4 (valD (bl m) 0+10).toNat _ hdr rfl (by rw[hv2,Int.toNat_of_nonneg (by omega)])
 rw[zds m (by rw[zj];omega),zc,hg]
 dsimp only
 rw[hw,z185 _ _ (by omega),zc,zk7 ⟨by omega,by decide,by decide,g2⟩]
 dsimp only
 rw[show((4:Int)).toNat=4 from rfl,g1]
 rfl
def txtV(l:List Val)(no:Int):Option Val:=l.find? fun v=>decide (v.1=no)
theorem z1bi(no:Int):∀(l:List Val) (i:Int),runI (fun i (x:Val) (s:Unit) K=>bif decide (x.1=no) then some (Sum.inl (x.2.1,true)) else K s) (fun _=>some (Sum.inr ())) l i ()=some (match txtV l no with
 |some v=> .inl (v.2.1,true)
 |none=>(.inr ():Sum Zt5 Unit))
 | [],i=>rfl
 |x::r,i=>by
  rw[runI]
  unfold txtV
  rw[List.find?_cons]
  cases hx:decide (x.1=no) with
  |true=>rfl
  |false=>exact z1bi no r (i+1)
theorem z1vd(m:Msg)(no:Int)(h:m.2.1.length≤1000000):Q184 m no=some (match txtV m.2.1 no with
 |some v=>(v.2.1,true)
 |none=>(bs [],false)):=by
 unfold Q184 zns
 dsimp only
 have:=loopI vnil m.2.1 (by rw[zj];omega) (fun i (x:Val) (s:Unit) K=>bif decide (x.1=no) then some (Sum.inl (x.2.1,true)) else K s) (fun _=>some (Sum.inr ())) (fun k i s=>zcd k no m.2.1 (m.2.1.length:Int) i) (fun k i s=>rfl) ()
 rw[this,z1bi]
 cases txtV m.2.1 no<;>rfl
def idxN(no:Int):List Val→Int→Int
 | [],_=> -1
 |x::r,i=>if x.1=no then i else idxN no r (i+1)
theorem z59(no:Int):∀(l:List Val) (i:Int),0≤i→(idxN no l i= -1∧txtV l no=none)∨(i≤idxN no l i∧idxN no l i<i+l.length∧txtV l no=some (l.getD (idxN no l i-i).toNat vnil))
 | [],i,h=> .inl ⟨rfl,rfl⟩
 |x::r,i,h=>by
  unfold idxN txtV
  rw[List.find?_cons]
  by_cases hx:x.1=no
  ·rw[if_pos hx,zT hx]
   exact .inr ⟨by omega,by simp only[List.length_cons];omega,by rw[show(i-i).toNat=0 by omega];rfl⟩
  ·rw[if_neg hx,zF hx]
   rcases z59 no r (i+1) (by omega) with⟨h1,h2⟩|⟨h1,h2,h3⟩
   ·exact .inl ⟨h1,h2⟩
   ·refine .inr ⟨by omega,by simp only[List.length_cons];omega,?_⟩
    rw[show(idxN no r (i+1)-i).toNat=(idxN no r (i+1)-(i+1)).toNat+1 by omega]
    exact h3
def exN(r:Int):Sum Int Unit:=bif decide (r<0) then .inr () else .inl r
theorem z1bq(no:Int):∀(l:List Val) (i:Int),0≤i→runI (fun i (x:Val) (s:Unit) K=>bif decide (x.1=no) then some (Sum.inl i) else K s) (fun _=>some (Sum.inr ())) l i ()=some (exN (idxN no l i))
 | [],i,_=>rfl
 |x::r,i,h=>by
  rw[runI,idxN]
  by_cases hx:x.1=no
  ·rw[zT hx,if_pos hx]
   unfold exN
   rw[zF (by omega)];rfl
  ·rw[zF hx,if_neg hx]
   exact z1bq no r (i+1) (by omega)
theorem z1hy(m:Msg)(no:Int)(h:m.2.1.length≤1000000):Q118 m no=some (idxN no m.2.1 0):=by
 unfold Q118 zlc
 dsimp only
 have:=loopI vnil m.2.1 (by rw[zj];omega) (fun i (x:Val) (s:Unit) K=>bif decide (x.1=no) then some (Sum.inl i) else K s) (fun _=>some (Sum.inr ())) (fun k i s=>z6u k no i m) (fun k i s=>by
  show z6u (k+1) no i m=_
  conv=>lhs;unfold z6u zld) ()
 rw[this,z1bq no _ 0 (Int.le_refl _),zc]
 unfold exN
 rcases z59 no m.2.1 0 (Int.le_refl _) with⟨h1,_⟩|⟨h1,_⟩
 ·rw[h1];rfl
 ·rw[zF (by omega)];rfl
theorem z8l{ρ:Type}(no:Int)(t:ByteArray)(q:ByteArray)(fin:Bool×Msg→Option ρ):∀(l:List Val) (i:Int) (f:Bool) (o:List Val),o.length+2*l.length≤4000000→
 runI (fun i (x:Val) (s:Bool×Msg) K=>bif !s.1 then(bif decide (no<x.1) then(bif decide ((s.2.2.1.length+([(no,t,())]:List Val).length)*24≤140737488355328) then(bif decide (((s.2.2.1++ [(no,t,())]).length+([x]:List Val).length)*24≤140737488355328) then K (true,(s.2.1,(s.2.2.1++ [(no,t,())])++ [x],())) else none) else none) else(bif decide ((s.2.2.1.length+([x]:List Val).length)*24≤140737488355328) then K (s.1,(s.2.1,s.2.2.1++ [x],())) else none)) else(bif decide ((s.2.2.1.length+([x]:List Val).length)*24≤140737488355328) then K (s.1,(s.2.1,s.2.2.1++ [x],())) else none)) (fun s=>fin s) l i (f,(q,o,()))=(if f=true then fin (true,(q,o++l,())) else if(l.any fun x=>decide (no<x.1))=true then fin (true,(q,o++insR no t l,())) else fin (false,(q,o++l,())))
 | [],i,f,o,_=>by cases f<;>simp [runI]
 |x::r,i,f,o,h=>by
  rw[List.length_cons] at h
  have d1:decide ((o.length+([x]:List Val).length)*24≤140737488355328)=true:=zT (by simp only[List.length_singleton];omega)
  rw[runI]
  dsimp only
  cases f with
  |true=>
   rw[Bool.not_true,zD,d1,zC,z8l no t q fin r (i+1) true (o++ [x]) (by rw[List.length_append,List.length_singleton];omega),if_pos rfl,if_pos rfl,List.append_assoc]
   rfl
  |false=>
   rw[Bool.not_false,zC,if_neg (by decide)]
   by_cases hx:no<x.1
   ·have d2:decide ((o.length+([(no,t,())]:List Val).length)*24≤140737488355328)=true:=zT (by simp only[List.length_singleton];omega)
    have d3:decide (((o++ [(no,t,())]).length+([x]:List Val).length)*24≤140737488355328)=true:=zT (by simp only[List.length_singleton,List.length_append];omega)
    rw[zT hx,zC,d2,zC,d3,zC,z8l no t q fin r (i+1) true _ (by simp only[List.length_append,List.length_singleton];omega),if_pos rfl,List.any_cons,zT hx,Bool.true_or,if_pos rfl,insR,if_pos hx]
    simp
   ·rw[zF hx,zD,d1,zC,z8l no t q fin r (i+1) false (o++ [x]) (by rw[List.length_append,List.length_singleton];omega),if_neg (by decide),List.any_cons,zF hx,Bool.false_or,insR,if_neg hx]
    simp
theorem z1bv{no:Int}{t:ByteArray}:∀{l:List Val},¬(l.any fun x=>decide (no<x.1))=true→insR no t l=l++ [(no,t,())]
 | [],_=>rfl
 |x::r,h=>by
  rw[List.any_cons,Bool.or_eq_true,not_or] at h
  have hx:¬no<x.1:=fun h2=>h.1 (zT h2)
  rw[insR,if_neg hx,z1bv h.2];rfl
theorem z15a(m:Msg)(no:Int)(t:ByteArray)(h:m.2.1.length≤1000000):Q120 m no t=some (withM m no t):=by
 have hl:=zjg m.2.1 no
 have hwo:Q121 m no=some (m.1,dropV m.2.1 no,()):=by
  unfold Q121 zlk
  dsimp only
  have:=loopJ vnil m.2.1 (by rw[zj];omega) (fun i (x:Val) (s:Msg×Msg) K=>(bif(!(decide (x.1=no))) then(bif(decide ((s.2.2.1.length+(List.length ([x]:List Val)))*24≤140737488355328)) then K (s.1,(s.2.1,(s.2.2.1++([x]:List Val)),())) else none) else K s)) (fun s=>some s)
   (fun k i s=>(z4v k no i m s.1 s.2)) (fun k i s h0 h1=>by
     show z4v (k+1) no i m s.1 s.2=_
     conv=>lhs;unfold z4v zbm
     rw[zT h1,zC,zl h0 h1,zl h0 h1]) (fun k s=>by
     show z4v (k+1) no m.2.1.length m s.1 s.2=_
     conv=>lhs;unfold z4v zbm
     rw[zF (by omega),zD]) ((bs [],[],()),(m.1,[],()))
  rw[this,z7s no _ _ _ _ (by simp;omega)]
  rfl
 unfold Q120 zlh withM
 rw[hwo,zc]
 dsimp only
 rw[zqm]
 generalize dropV m.2.1 no=old at*
 have hL:=loopJ vnil old (by rw[zj];omega) (fun i (x:Val) (s:Bool×Msg) K=>bif !s.1 then(bif decide (no<x.1) then(bif decide ((s.2.2.1.length+([(no,t,())]:List Val).length)*24≤140737488355328) then(bif decide (((s.2.2.1++ [(no,t,())]).length+([x]:List Val).length)*24≤140737488355328) then K (true,(s.2.1,(s.2.2.1++ [(no,t,())])++ [x],())) else none) else none) else(bif decide ((s.2.2.1.length+([x]:List Val).length)*24≤140737488355328) then K (s.1,(s.2.1,s.2.2.1++ [x],())) else none)) else(bif decide ((s.2.2.1.length+([x]:List Val).length)*24≤140737488355328) then K (s.1,(s.2.1,s.2.2.1++ [x],())) else none)) (fun s=>some (no,t,s.1,msg0,s.2))
  (fun k i s=>z4u k no t s.1 i msg0 s.2 (m.1,old,())) (fun k i s h0 h1=>by
    show z4u (k+1) no t s.1 i msg0 s.2 (m.1,old,())=_
    conv=>lhs;unfold z4u zbl
    rw[zT h1,zC]
    simp only[zl h0 h1]) (fun k s=>by
    show z4u (k+1) no t s.1 old.length msg0 s.2 (m.1,old,())=_
    conv=>lhs;unfold z4u zbl
    rw[zF (by dsimp only;omega),zD]) (false,(m.1,[],()))
 rw[show((bs [],[],()):Msg)=msg0 from rfl]
 have hR:=z8l no t m.1 (fun s=>some (no,t,s.1,msg0,s.2)) old 0 false [] (by simp;omega)
 dsimp only at hL
 rw[hL,hR,if_neg (by decide)]
 by_cases ha:(old.any fun x=>decide (no<x.1))=true
 ·rw[if_pos ha,zc]
  rfl
 ·rw[if_neg ha,zc]
  unfold zli
  dsimp only
  rw[Bool.not_false,zC,zT (by simp only[List.nil_append,List.length_singleton];omega),zC,z1bv ha]
  rfl
end Groat

namespace Groat
open Go.IntKind renaming wrap→zW,i64→zI,u8→zU
open Go Go.Ref
def codeT(s:Side)(e:Int):ByteArray:=match txtV s.2.2.2.1 e with
 |some c=>c.2.1
 |none=>match txtV s.2.2.2.1 0 with
  |some c=>c.2.1
  |none=>bs []
theorem z15u(s:Side)(e:Int)(q:List Int)(n i0:Int):∀(l:List Val) (i:Int),runI (fun i (x:Val) (u:Unit) K=>bif decide (x.1=e) then some (Sum.inl (x.2.1,q,n,i0,s)) else K u) (fun _=>some (Sum.inr (q,n,i0,s))) l i ()=some (match txtV l e with
 |some v=> .inl (v.2.1,q,n,i0,s)
 |none=>(.inr (q,n,i0,s):Sum (ByteArray×List Int×Int×Int×Side) (List Int×Int×Int×Side)))
 | [],i=>rfl
 |x::r,i=>by
  rw[runI]
  unfold txtV
  rw[List.find?_cons]
  cases hx:decide (x.1=e) with
  |true=>rfl
  |false=>exact z15u s e q n i0 r (i+1)
theorem z1yl(s:Side)(hs:s.2.2.2.1.length≤1000000)(e:Int)(q:List Int)(n i0:Int):z95 FUEL e q n i0 s.2.2.2.1 (s.2.2.2.1.length:Int) 0 s=some (match txtV s.2.2.2.1 e with
 |some v=> .inl (v.2.1,q,n,i0,s)
 |none=>(.inr (q,n,i0,s):Sum (ByteArray×List Int×Int×Int×Side) (List Int×Int×Int×Side))):=by
 rw[←z15u s e q n i0 s.2.2.2.1 0]
 exact loopI vnil s.2.2.2.1 (by rw[zj];omega) (fun i (x:Val) (u:Unit) K=>bif decide (x.1=e) then some (Sum.inl (x.2.1,q,n,i0,s)) else K u) (fun _=>some (Sum.inr (q,n,i0,s))) (fun k i u=>z95 k e q n i0 s.2.2.2.1 (s.2.2.2.1.length:Int) i s) (fun k i u=>rfl) ()
theorem z1v8(s:Side)(hs:s.2.2.2.1.length≤1000000)(e:Int):Q200 s e=some (codeT s e):=by
 obtain⟨k,hk⟩:=zyb
 have h1:=z1yl s hs
 unfold Q200 zog codeT
 dsimp only
 rw[show(List.length [e,(0:Int)]:Int)=2 from rfl]
 have step:∀(K i:Nat) (x:Int),i<2→List.getD [e,(0:Int)] i 0=x→z5y (K+1) [e,0] 2 (i:Int) s=match txtV s.2.2.2.1 x with
  |some v=>some (.inr v.2.1)
  |none=>z5y K [e,0] 2 ((i+1:Nat):Int) s:=by
  intro K i x hi hx
  conv=>lhs;unfold z5y zcl
  rw[zT (by omega),zC,show(List.length [e,(0:Int)])=2 from rfl,zh hi,Int.toNat_natCast,hx]
  dsimp only
  rw[h1,zc]
  cases txtV s.2.2.2.1 x with
  |some v=>rfl
  |none=>
   dsimp only
   rw[Sum.elim_inr]
   unfold zoh
   dsimp only
   rw[zo (by omega)]
 have s0:=step (k+1+1) 0 e (by decide) rfl
 have s1:=step (k+1) 1 0 (by decide) rfl
 rw[show((0:Nat):Int)=0 from rfl] at s0
 rw[hk,s0]
 cases txtV s.2.2.2.1 e with
 |some v=>rfl
 |none=>
  dsimp only
  rw[s1]
  cases txtV s.2.2.2.1 0 with
  |some v=>rfl
  |none=>
   dsimp only
   unfold z5y zcl
   rw[zF (by decide)];rfl
theorem zjq(l:List Val)(hl:l.length≤1000000)(e:Int):∀(n j k:Nat),j+n=l.length→n<k→z4b k l (l.length:Int) e (j:Int)=some (exN (idxN e (l.drop j) j))
 |n,j,0,_,hk=>by omega
 |0,j,k+1,hj,hk=>by
  unfold z4b z79
  rw[zF (by omega),zD,List.drop_eq_nil_of_le (by omega)];rfl
 |n+1,j,k+1,hj,hk=>by
  have hlt:j<l.length:=by omega
  unfold z4b z79
  rw[zT (by omega),zC,zh hlt,Int.toNat_natCast,z64 hlt,List.drop_eq_getElem_cons hlt,idxN]
  by_cases he:l[j].1=e
  ·rw[zT he,zC,if_pos he]
   unfold exN
   rw[zF (by omega)];rfl
  ·rw[zF he,zD,if_neg he]
   dsimp only
   rw[zo (by omega)]
   exact zjq l hl e n (j+1) k (by omega) (by omega)
theorem zy8(l:List Val)(hl:l.length≤1000000)(e:Int):Q150 l (l.length:Int) e=some (idxN e l 0):=by
 unfold Q150 zc9
 have:=zjq l hl e l.length 0 FUEL (by omega) (by rw[zn];omega)
 rw[show((0:Nat):Int)=0 from rfl,List.drop_zero] at this
 dsimp only
 rw[this,zc]
 unfold exN
 rcases z59 e l 0 (Int.le_refl _) with⟨h1,_⟩|⟨h1,_⟩
 ·rw[h1];rfl
 ·rw[zF (by omega)];rfl
theorem z1ht(s:Side)(hs:s.2.2.2.1.length≤1000000)(e:Int):Q147 s e=some (codeT s e):=by
 unfold Q147 zn2 codeT
 rw[zy8 _ hs,zy8 _ hs,zc,zc]
 rcases z59 e s.2.2.2.1 0 (Int.le_refl _) with⟨h1,h2⟩|⟨h1,h2,h3⟩
 ·rw[h1,h2,zT (by decide),zC]
  rcases z59 0 s.2.2.2.1 0 (Int.le_refl _) with⟨g1,g2⟩|⟨g1,g2,g3⟩
  ·rw[g1,g2];rfl
  ·rw[zF (by omega),zD,zl g1 (by omega),g3,Int.sub_zero]
 ·rw[zF (by omega),zD,zD,zl h1 (by omega),h3,Int.sub_zero]
def echoB(l:List Val):List Int→Msg→Msg
 | [],o=>o
 |no::r,o=>echoB l r (match txtV l no with
  |some v=>withM o no v.2.1
  |none=>o)
def z44(s:Side)(m:Msg)(e:Int):Msg:=withM (echoB m.2.1 s.2.2.1 (respM m.1,[],())) 39 (codeT s e)
def zdd(s:Side)(m:Msg)(f:Fault):Msg×Bool:=if reqM m.1=true then(z44 s m f.1,true) else(msg0,false)
theorem zez(m:Msg)(no:Int)(t:ByteArray):(withM m no t).2.1.length≤m.2.1.length+1:=zb0 m no t
theorem zat(l:List Val):∀(e:List Int) (o:Msg),(echoB l e o).2.1.length≤o.2.1.length+e.length
 | [],o=>Nat.le_refl _
 |no::r,o=>by
  rw[echoB,List.length_cons]
  have h:=zat l r (match txtV l no with
   |some v=>withM o no v.2.1
   |none=>o)
  cases hx:txtV l no with
  |some v=>
   rw[hx] at h
   have:=zez o no v.2.1
   dsimp only at h⊢
   omega
  |none=>rw[hx] at h;dsimp only at h⊢;omega
theorem zji{ρ:Type}(m:Msg)(hm:m.2.1.length≤1000000)(fin:Msg→Option ρ):∀(l:List Int) (i:Int) (o:Msg),o.2.1.length+l.length≤1000000→
 runI (fun i (x:Int) (o:Msg) K=>(Q184 m x).bind fun r2=>(bif r2.2 then((Q186 o x r2.1).bind fun r3=>K r3) else K o)) fin l i o=fin (echoB m.2.1 l o)
 | [],i,o,_=>rfl
 |x::r,i,o,h=>by
  rw[List.length_cons] at h
  rw[runI,z1vd m x hm,zc,echoB]
  cases hx:txtV m.2.1 x with
  |some v=>
   have:=zez o x v.2.1
   dsimp only
   rw[zC,zdu o x _ (by omega),zc]
   exact zji m hm fin r (i+1) _ (by omega)
  |none=>exact zji m hm fin r (i+1) o (by omega)
theorem z1p6(s:Side)(m:Msg)(f:Fault)(hs:SideOk s)(he:s.2.2.1.length≤300)(hm:MsgOk m):Q198 s m f=some (zdd s m f):=by
 have hml:=hm.len
 unfold Q198 zo7 zdd
 rw[z1dd m.1 (by rw[zj];exact hm.mti),zc]
 cases hr:reqM m.1 with
 |false=>rfl
 |true=>
  rw[if_pos rfl,if_pos rfl,Bool.not_true,zD]
  dsimp only
  have hl:=loopI (0:Int) s.2.2.1 (by rw[zj];omega) (fun i (x:Int) (o:Msg) K=>(Q184 m x).bind fun r2=>(bif r2.2 then((Q186 o x r2.1).bind fun r3=>K r3) else K o)) (fun o=>some (s,f,msg0,o)) (fun k i o=>zci k s.2.2.1 (s.2.2.1.length:Int) i s m f msg0 o) (fun k i o=>rfl) (respM m.1,[],())
  have hb:=zat m.2.1 s.2.2.1 (respM m.1,[],())
  rw[hl,zji m (by omega) _ _ _ _ (by simp;omega),zc]
  unfold zo8
  dsimp only at hb⊢
  rw[z1v8 s hs.codes,zc,zdu _ _ _ (by rw[List.length_nil] at hb;omega),zc]
  rfl
theorem za9(s:Side)(m:Msg)(f:Fault)(hm:m.2.1.length≤1000000)(hs:s.2.2.1.length≤1000):∀(n j k:Nat) (o:Msg),j+n=s.2.2.1.length→n<k→o.2.1.length+n≤1000000→z74 k (j:Int) s m f msg0 o=some (s,f,msg0,echoB m.2.1 (s.2.2.1.drop j) o)
 |n,j,0,o,_,hk,_=>by omega
 |0,j,k+1,o,hj,hk,_=>by
  unfold z74 zc5
  rw[zF (by omega),zD,List.drop_eq_nil_of_le (by omega)];rfl
 |n+1,j,k+1,o,hj,hk,ho=>by
  have hlt:j<s.2.2.1.length:=by omega
  have hw:∀{R:Type} (z:Option R),zd (j:Int) s.2.2.1.length z=z:=fun z=>zh hlt
  unfold z74 zc5
  rw[zT (by omega),zC,List.drop_eq_getElem_cons hlt,echoB]
  simp only[hw,Int.toNat_natCast,z64 hlt]
  rw[z1hy m _ hm,zc]
  rcases z59 s.2.2.1[j] m.2.1 0 (Int.le_refl _) with⟨h1,h2⟩|⟨h1,h2,h3⟩
  ·rw[h1,h2,zF (by decide),zD,zo (by omega)]
   exact za9 s m f hm hs n (j+1) k o (by omega) (by omega) (by omega)
  ·rw[h3,zT h1,zC,zl h1 (by omega),Int.sub_zero,z15a o _ _ (by omega),zc,zo (by omega)]
   have:=zez o s.2.2.1[j] (m.2.1.getD (idxN s.2.2.1[j] m.2.1 0).toNat ((0:Int),bs [],())).2.1
   exact za9 s m f hm hs n (j+1) k _ (by omega) (by omega) (by omega)
theorem z1g7(s:Side)(m:Msg)(f:Fault)(hs:SideOk s)(he:s.2.2.1.length≤300)(hm:MsgOk m):Q145 s m f=some (zdd s m f):=by
 have hml:=hm.len
 unfold Q145 zmv zdd
 rw[za4 m.1 (by rw[zj];exact hm.mti),zc]
 cases hr:reqM m.1 with
 |false=>rfl
 |true=>
  rw[Bool.not_true,zD,z17m m.1 hr,zc,if_pos rfl]
  dsimp only
  have hl:=za9 s m f (by omega) (by omega) s.2.2.1.length 0 FUEL (respM m.1,[],()) (by omega) (by rw[zn];omega) (by simp;omega)
  have hb:=zat m.2.1 s.2.2.1 (respM m.1,[],())
  rw[show((0:Nat):Int)=0 from rfl,List.drop_zero] at hl
  rw[hl,zc]
  unfold zmw
  dsimp only at hb⊢
  rw[z1ht s hs.codes,zc,z15a _ _ _ (by rw[List.length_nil] at hb;omega),zc]
  rfl
theorem zy0{a:Spec}:∀{l:List Val} {prev:List Int} {i:Int},codeL a prev l i=none→∀c∈l,valC a c.2.1=0
 | [],_,_,_,c,hc=>by cases hc
 |x::r,prev,i,h,c,hcm=>by
  rw[codeL] at h
  by_cases hc:codeC a prev x=0
  ·rw[zT hc,zC] at h
   rcases List.mem_cons.1 hcm with rfl|hcm
   ·unfold codeC at hc
    cases h1:decide (c.1<0) with
    |true=>rw[h1] at hc;cases hc
    |false=>
     rw[h1,zD] at hc
     cases h2:decide (16<c.1) with
     |true=>rw[h2] at hc;cases hc
     |false=>
      rw[h2,zD] at hc
      cases h3:decide (c.1∈prev) with
      |true=>rw[h3] at hc;cases hc
      |false=>rw[h3,zD] at hc;exact hc
   ·exact zy0 h c hcm
  ·rw[zF hc] at h;cases h
structure Side0(s:Side):Prop where
 sch:(z14 s.1).1=0
 act:hasS s.1 39=true
 codes:∀c∈s.2.2.2.1,valC (getS s.1 39) c.2.1=0
 zero:(0:Int)∈s.2.2.2.1.map fun c=>c.1
theorem z1cm{s:Side}(h:(rejC s).1=0):Side0 s:=by
 unfold rejC at h
 by_cases h1:(z14 s.1).1=0
 case neg=>rw[zF h1] at h;cases h
 rw[zT h1,Bool.not_true,zD] at h
 cases h2:hasS s.1 39 with
 |false=>rw[h2] at h;cases h
 |true=>
  rw[h2,Bool.not_true,zD] at h
  have ne:∀{l:List Int} {prev:List Int} {i:Int} {e:Int×Int},echoL s.1 prev l i=some e→e.1≠0:=by
   intro l
   induction l with
   |nil=>intro _ _ _ h;cases h
   |cons x r ih=>
    intro prev i e h
    rw[echoL] at h
    by_cases hc:echoC s.1 prev x=0
    ·rw[zT hc,zC] at h;exact ih h
    ·rw[zF hc,zD] at h;cases h;exact hc
  have nc:∀{l:List Val} {prev:List Int} {i:Int} {e:Int×Int},codeL (getS s.1 39) prev l i=some e→e.1≠0:=by
   intro l
   induction l with
   |nil=>intro _ _ _ h;cases h
   |cons x r ih=>
    intro prev i e h
    rw[codeL] at h
    by_cases hc:codeC (getS s.1 39) prev x=0
    ·rw[zT hc,zC] at h;exact ih h
    ·rw[zF hc,zD] at h;cases h;exact hc
  cases h3:echoL s.1 [] s.2.2.1 0 with
  |some e=>rw[h3] at h;exact absurd h (ne h3)
  |none=>
   rw[h3] at h
   dsimp only at h
   cases h4:codeL (getS s.1 39) [] s.2.2.2.1 0 with
   |some e=>rw[h4] at h;exact absurd h (nc h4)
   |none=>
    rw[h4] at h
    dsimp only at h
    by_cases h5:(0:Int)∈s.2.2.2.1.map fun c=>c.1
    ·exact⟨h1,h2,zy0 h4,h5⟩
    ·rw[zF h5] at h;cases h
theorem z1tm{s:Side}(h:Side0 s)(e:Int):valC (getS s.1 39) (codeT s e)=0:=by
 unfold codeT
 cases h1:txtV s.2.2.2.1 e with
 |some c=>exact h.codes c (List.mem_of_find?_eq_some h1)
 |none=>
  cases h2:txtV s.2.2.2.1 0 with
  |some c=>exact h.codes c (List.mem_of_find?_eq_some h2)
  |none=>
   obtain⟨c,hc,h0⟩:=List.mem_map.1 h.zero
   have:=List.find?_eq_none.1 h2 c hc
   exact absurd (zT h0) this
theorem z165(l:List Val):∀(e:List Int) (o:Msg) (v:Val),v∈(echoB l e o).2.1→v∈o.2.1∨v∈l
 | [],o,v,h=> .inl h
 |no::r,o,v,h=>by
  rw[echoB] at h
  rcases z165 l r _ v h with h|h
  ·cases hx:txtV l no with
   |none=>rw[hx] at h;exact .inl h
   |some w=>
    rw[hx] at h
    rcases(zb1 o no w.2.1 v).1 h with e|⟨h,_⟩
    ·have hw:=List.find?_some hx
     have hw:w.1=no:=by simpa using hw
     right
     rw[e,←hw]
     exact List.mem_of_find?_eq_some hx
    ·exact .inl h
  ·exact .inr h
theorem zjh(l:List Val):∀(e:List Int) (o:Msg),Ris o.2.1→Ris (echoB l e o).2.1∧(echoB l e o).1=o.1
 | [],o,h=>⟨h,rfl⟩
 |no::r,o,h=>by
  rw[echoB]
  cases hx:txtV l no with
  |none=>exact zjh l r o h
  |some w=>
   obtain⟨h1,h2⟩:=zjh l r (withM o no w.2.1) (zkm h no w.2.1)
   exact⟨h1,h2⟩
structure Part(s:zf)(m:Msg):Prop where
 head:zz m.1=true→verM m.1=s.2.1
 mti:m.1.size≤1000
 len:m.2.1.length≤200
 flds:∀v∈m.2.1,hasS s v.1=true∧valC (getS s v.1) v.2.1=0∧v.2.1.size≤999
theorem Part.ok{s:zf}{m:Msg}(h:Part s m):MsgOk m:=⟨by have:=h.mti;omega,by have:=h.len;omega,fun v hv=>by have:=(h.flds v hv).2.2;omega⟩
theorem z1as{s:Side}(hk:Side0 s)(ho:SideOk s)(he:s.2.2.1.length≤300){m:Msg}(hm:Part s.1 m)(e:Int)(hr:reqM m.1=true):Msg0 s.1 (z44 s m e)∧Short (z44 s m e)∧reqM (z44 s m e).1=false:=by
 obtain⟨r1,r2,r3⟩:=z1z6 hr
 obtain⟨b1,b2⟩:=zjh m.2.1 s.2.2.1 (respM m.1,[],()) List.Pairwise.nil
 have hmti:(z44 s m e).1=respM m.1:=b2
 have ok:=(z2p s.1).1 hk.sch
 have hc:=z1tm hk e
 have hcs:(codeT s e).size≤1099511627776:=by
  unfold codeT
  split
  ·rename_i c h;exact ho.txt c (List.mem_of_find?_eq_some h)
  ·split
   ·rename_i c h;exact ho.txt c (List.mem_of_find?_eq_some h)
   ·exact Nat.zero_le _
 have hf:∀v∈(z44 s m e).2.1,hasS s.1 v.1=true∧valC (getS s.1 v.1) v.2.1=0∧v.2.1.size≤999:=fun v hv=>by
  rcases(zb1 _ _ _ v).1 hv with rfl|⟨hv,_⟩
  ·obtain⟨v1,v2,v3,_,_⟩:=(z7o _ _ hcs).1 hc
   have:=z9h v1
   exact⟨hk.act,hc,by dsimp only;omega⟩
  ·rcases z165 _ _ _ v hv with hv|hv
   ·cases hv
   ·exact hm.flds v hv
 have hris:Ris (z44 s m e).2.1:=zkm b1 39 (codeT s e)
 refine⟨⟨hk.sch,by rw[hmti];exact r1,by rw[hmti,r2];exact hm.head (z86 hr).1,z2g.2 ⟨fun v hv=>⟨(hf v hv).1,(hf v hv).2.1⟩,hris,fun v hv=>by have:=z1yz ok (hf v hv).1;omega⟩⟩,⟨by rw[hmti];have:=(z1i.1 r1).1;omega,?_,fun v hv=>by have:=(hf v hv).2.2;omega⟩,by rw[hmti];exact r3⟩
 have h1:=zat m.2.1 s.2.2.1 (respM m.1,[],())
 have h2:=zez (echoB m.2.1 s.2.2.1 (respM m.1,[],())) 39 (codeT s e)
 unfold z44
 dsimp only[List.length_nil] at h1
 omega
theorem z15z(s:zf)(b:ByteArray)(hb:b.size≤1099511627776):∀(r:List Int) (a:Nat) (o:List Val),(∀v∈o,hasS s v.1=true∧valC (getS s v.1) v.2.1=0∧v.2.1.size≤999)→(∀v∈(decF s b r a o).1,hasS s v.1=true∧valC (getS s v.1) v.2.1=0∧v.2.1.size≤999)∧(decF s b r a o).1.length≤o.length+r.length
 | [],a,o,h=>⟨h,Nat.le_refl _⟩
 |no::r,a,o,h=>by
  rw[decF]
  split
  ·exact⟨h,Nat.le_add_right _ _⟩
  ·rename_i hf
   have hf:hasS s no=true:=by cases hh:hasS s no with
    |true=>rfl
    |false=>exact absurd hh hf
   split
   ·exact⟨h,Nat.le_add_right _ _⟩
   ·rename_i hz
    generalize hg:z21 s.1 (getS s no) b (a:Int)=g at hz⊢
    obtain⟨t,z,e⟩:=g
    dsimp only at hz⊢
    have he:e=0:=Classical.byContradiction fun hn=>hz hn
    subst he
    obtain⟨c1,c2,c3,c4,c5,c6⟩:=zxz hb hg
    have h2:∀v∈o++ [((no,t,()):Val)],hasS s v.1=true∧valC (getS s v.1) v.2.1=0∧v.2.1.size≤999:=fun v hv=>by
     rcases List.mem_append.1 hv with hv|hv
     ·exact h v hv
     ·rw[List.mem_singleton.1 hv];exact⟨hf,c2,c5⟩
    obtain⟨i1,i2⟩:=z15z s b hb r z.toNat _ h2
    rw[List.length_append,List.length_singleton] at i2
    exact⟨i1,by rw[List.length_cons];omega⟩
theorem part0(s:zf):Part s msg0:=⟨fun h=>(by cases h),Nat.zero_le _,Nat.zero_le _,fun v hv=>(by cases hv)⟩
theorem z1b1(s:zf)(b:ByteArray)(hb:b.size≤1099511627776):Part s (decC s b).1:=by
 unfold decC
 split
 ·exact part0 s
 cases ht:typD s b with
 |inl e=>exact part0 s
 |inr q=>
  unfold typD at ht
  split at ht
  ·cases ht
  split at ht
  case isFalse=>cases ht
  rename_i hr
  injection ht with ht
  subst ht
  have h4:=(z1i.1 hr.1).1
  show Part s (decB s b (typT s.1 b) _).1
  unfold decB
  split
  ·exact⟨fun _=>hr.2,by dsimp only;omega,Nat.zero_le _,fun v hv=>by cases hv⟩
  ·obtain⟨p1,p2⟩:=z15z s b hb (elems (bmGet s.1 b (typZ s.1)).1 (bmGet s.1 b (typZ s.1)).2.1) (bmGet s.1 b (typZ s.1)).2.2.1.toNat [] (fun v hv=>by cases hv)
   have:=zac (bmGet s.1 b (typZ s.1)).1 (bmGet s.1 b (typZ s.1)).2.1
   rw[List.length_nil] at p2
   exact⟨fun _=>hr.2,by dsimp only;omega,by dsimp only;omega,p1⟩
end Groat

namespace Groat
open Go.IntKind renaming wrap→zW,i64→zI,u8→zU
open Go Go.Ref
theorem z1y9:Q60=some true:=by kernel_rfl
end Groat

namespace Groat
open Go.IntKind renaming wrap→zW,i64→zI,u8→zU
open Go Go.Ref
def ansC(p:Side)(n:Int)(m:Msg)(f:Fault):Int×ByteArray:=
 if reqM m.1=true then(if n<((encC p.1 (z44 p m f.1)).size:Int) then(3,bs []) else(2,encC p.1 (z44 p m f.1))) else(3,bs [])
def outT(p q:Side)(n:Int)(m:Msg)(t:Msg×Fault):Int×ByteArray:=
 if¬t.2.1=0 then ansC p n m t.2 else if n<((encC q.1 t.1).size:Int) then ansC p n m (5,129,()) else(1,encC q.1 t.1)
def outD(p q:Side)(n:Int)(d:Msg×Fault):Int×ByteArray:=if¬d.2.1=0 then ansC p n d.1 d.2 else outT p q n d.1 (z33 p.2.1 p.1 q.1 d.1)
def outC(p q:Side)(n:Int)(b:ByteArray):Int×ByteArray:=outD p q n (decC p.1 b)
structure Cfg0(p q:Side)(n:Int):Prop where
 n1:1≤n
 n2:n≤65535
 rp:(rejC p).1=0
 rq:(rejC q).1=0
 mp:(mapC p.2.1 p.1 q.1).1=0
 mq:(mapC q.2.1 q.1 p.1).1=0
theorem Cfg0.symm{p q:Side}{n:Int}(h:Cfg0 p q n):Cfg0 q p n:=⟨h.n1,h.n2,h.rq,h.rp,h.mq,h.mp⟩
theorem CfgOk.symm{p q:Side}(h:CfgOk p q):CfgOk q p:=⟨h.sq,h.sp,h.qm,h.pm,h.q200,h.p200,h.qe,h.pe,h.qml,h.pml,h.qtxt,h.ptxt⟩
theorem z1ax{p q:Side}{n:Int}:(cfgC p q n).1=0↔Cfg0 p q n:=by
 unfold cfgC
 by_cases h1:n<1
 ·rw[zT h1];exact⟨fun h=>(by cases h),fun h=>by have:=h.n1;omega⟩
 by_cases h2:65535<n
 ·rw[zF h1,zT h2];exact⟨fun h=>(by cases h),fun h=>by have:=h.n2;omega⟩
 rw[zF h1,zF h2,zD,zD]
 by_cases h3:(rejC p).1=0
 case neg=>rw[zF h3];exact⟨fun h=>absurd h h3,fun h=>absurd h.rp h3⟩
 rw[zT h3,Bool.not_true,zD]
 by_cases h4:(mapC p.2.1 p.1 q.1).1=0
 case neg=>rw[zF h4];exact⟨fun h=>absurd h h4,fun h=>absurd h.mp h4⟩
 rw[zT h4,Bool.not_true,zD]
 by_cases h5:(rejC q).1=0
 case neg=>rw[zF h5];exact⟨fun h=>absurd h h5,fun h=>absurd h.rq h5⟩
 rw[zT h5,Bool.not_true,zD]
 by_cases h6:(mapC q.2.1 q.1 p.1).1=0
 case neg=>rw[zF h6];exact⟨fun h=>absurd h h6,fun h=>absurd h.mq h6⟩
 rw[zT h6]
 exact⟨fun _=>⟨by omega,by omega,h3,h5,h4,h6⟩,fun _=>rfl⟩
theorem z1tw{s:zf}{m:Msg}(h:Msg0 s m):2≤(encC s m).size:=by
 have ho:=(z2p s).1 h.sch
 have:=(z1ov (s:=s) ho.1 (m:=m.1) (y:=bs []) h.right).2
 have hz:2≤typZ s.1:=by unfold typZ;split<;>omega
 unfold encC
 rw[z2z,z2z]
 omega
theorem z1g5{s:zf}{m:Msg}(h:Msg0 s m):wireC s m=(encC s m,zu):=by
 unfold wireC
 rw[if_pos (zah.2 h)]
section
variable {p q:Side} {n:Int} (h:CfgOk p q) (h0:Cfg0 p q n)
include h h0
theorem z14w{m:Msg}(hm:Part p.1 m)(f:Fault)(cl:List Side):Q209 m f p (cl,n,())=some (ansC p n m f):=by
 unfold Q209 zoo ansC
 rw[z1p6 p m f h.sp h.pe hm.ok,zc]
 unfold zdd
 cases hr:reqM m.1 with
 |false=>rfl
 |true=>
  obtain⟨b1,b2,_⟩:=z1as (z1cm h0.rp) h.sp h.pe hm f.1 hr
  have hp:=z1tw b1
  rw[if_pos rfl,if_pos rfl]
  dsimp only
  rw[Bool.not_true,zD,z159 p.1 _ h.sp.sch b2.ok,zc,z1g5 b1]
  dsimp only
  rw[zF (fun e=>by rw[e] at hp;exact absurd hp (by decide)),zD]
  by_cases hn:n<((encC p.1 (z44 p m f.1)).size:Int)
  ·rw[zT hn,if_pos hn];rfl
  ·rw[zF hn,if_neg hn];rfl
theorem zix{m:Msg}(hm:Part p.1 m)(f:Fault)(c:zf4)(link:Int)(hl:0≤link∧link<2)(hc:List.getD c.1 link.toNat side0=p)(hn:c.2.1=n):Q160 c link m f=some (ansC p n m f):=by
 unfold Q160 zne ansC
 have hc':List.getD c.1 link.toNat ((((0:Int),(0:Int),([]:List Spec),()),(([]:List Pair),([]:List Rule),()),([]:List Int),([]:List Val),()):Side)=p:=hc
 rw[zl hl.1 hl.2]
 simp only[hc',hn]
 rw[z1g7 p m f h.sp h.pe hm.ok,zc]
 unfold zdd
 cases hr:reqM m.1 with
 |false=>rfl
 |true=>
  obtain⟨b1,b2,_⟩:=z1as (z1cm h0.rp) h.sp h.pe hm f.1 hr
  rw[if_pos rfl,if_pos rfl]
  dsimp only
  rw[Bool.not_true,zD,z17z p.1 _ h.sp.sch b1 b2,zc]
  by_cases hn:n<((encC p.1 (z44 p m f.1)).size:Int)
  ·rw[zT hn,if_pos hn];rfl
  ·rw[zF hn,if_neg hn];rfl
theorem z177{m:Msg}(hm:MsgOk m)(ht:(z33 p.2.1 p.1 q.1 m).2.1=0):Msg0 q.1 (z33 p.2.1 p.1 q.1 m).1∧MsgOk (z33 p.2.1 p.1 q.1 m).1:=by
 rcases z1dv p.2.1 p.1 q.1 m with⟨f,hf,e⟩|⟨ys,hd,e⟩
 ·rw[e] at ht;exact absurd ht hf
 ·rw[e];exact⟨hd.out h.pm hm,hd.ok h.pm hm⟩
theorem z1o4(b:ByteArray)(hb:b.size≤1099511627776)(cl:List Side):((Q232 p.1 b).bind fun r2=>(bif(!(decide (r2.2.1=(0:Int)))) then((Q209 r2.1 r2.2 p (cl,n,())).bind fun r3=>some (r3.1,r3.2)) else((Q252 p.2.1 p.1 q.1 r2.1).bind fun r4=>(bif(!(decide (r4.2.1=(0:Int)))) then((Q209 r2.1 r4.2 p (cl,n,())).bind fun r5=>some (r5.1,r5.2)) else((Q248 q.1 r4.1).bind fun r6=>(bif(decide (n<((r6.1).size:Int))) then((Q209 r2.1 ((5:Int),(129:Int),()) p (cl,n,())).bind fun r7=>some (r7.1,r7.2)) else some ((1:Int),r6.1)))))))=some (outC p q n b):=by
 have hpt:=z1b1 p.1 b hb
 have hok:=hpt.ok
 rw[z1hx p.1 b h.sp.sch hb,zc]
 unfold outC outD
 by_cases hd:(decC p.1 b).2.1=0
 case neg=>rw[zF hd,Bool.not_false,zC,if_pos hd,z14w h h0 hpt,zc]
 rw[zT hd,Bool.not_true,zD,if_neg (fun e=>e hd),z1af p.2.1 p.1 q.1 _ h.pm (by have:=h.pml;omega) hok (by have:=hpt.len;omega) h.sp.sch h.sq.sch,zc]
 unfold outT
 by_cases ht:(z33 p.2.1 p.1 q.1 (decC p.1 b).1).2.1=0
 case neg=>rw[zF ht,Bool.not_false,zC,if_pos ht,z14w h h0 hpt,zc]
 obtain⟨t1,t2⟩:=z177 h h0 hok ht
 rw[zT ht,Bool.not_true,zD,if_neg (fun e=>e ht),z159 q.1 _ h.sq.sch t2,zc,z1g5 t1]
 dsimp only
 by_cases hn:n<((encC q.1 (z33 p.2.1 p.1 q.1 (decC p.1 b).1).1).size:Int)
 ·rw[zT hn,zC,if_pos hn,z14w h h0 hpt,zc]
 ·rw[zF hn,zD,if_neg hn]
theorem ref24(b:ByteArray)(hb:b.size≤1099511627776)(c:zf4)(link:Int)(hl:0≤link∧link<2)(hc:List.getD c.1 link.toNat side0=p)(hn:c.2.1=n):((Q124 p.1 b).bind fun r1=>(bif(!(decide (r1.2.1=(0:Int)))) then((Q160 c link r1.1 r1.2).bind fun r2=>some (r2.1,r2.2)) else((Q139 p.2.1 p.1 q.1 r1.1).bind fun r3=>(bif(!(decide (r3.2.1=(0:Int)))) then((Q160 c link r1.1 r3.2).bind fun r4=>some (r4.1,r4.2)) else((Q122 q.1 r3.1).bind fun r5=>(bif(decide (n<((r5).size:Int))) then((Q160 c link r1.1 ((5:Int),(129:Int),())).bind fun r6=>some (r6.1,r6.2)) else some ((1:Int),r5)))))))=some (outC p q n b):=by
 have hpt:=z1b1 p.1 b hb
 have hok:=hpt.ok
 rw[z1d8 p.1 b h.sp.sch hb,zc]
 unfold outC outD
 by_cases hd:(decC p.1 b).2.1=0
 case neg=>rw[zF hd,Bool.not_false,zC,if_pos hd,zix h h0 hpt _ c link hl hc hn,zc]
 rw[zT hd,Bool.not_true,zD,if_neg (fun e=>e hd),z14m p.2.1 p.1 q.1 _ h.pm h.pml hok hpt.len h.sp.sch h.sq.sch,zc,←zey]
 unfold outT
 by_cases ht:(z33 p.2.1 p.1 q.1 (decC p.1 b).1).2.1=0
 case neg=>rw[zF ht,Bool.not_false,zC,if_pos ht,zix h h0 hpt _ c link hl hc hn,zc]
 obtain⟨t1,t2⟩:=z177 h h0 hok ht
 rw[zT ht,Bool.not_true,zD,if_neg (fun e=>e ht),z17z q.1 _ h.sq.sch t1 (zyq t2 t1),zc]
 by_cases hn2:n<((encC q.1 (z33 p.2.1 p.1 q.1 (decC p.1 b).1).1).size:Int)
 ·rw[zT hn2,zC,if_pos hn2,zix h h0 hpt _ c link hl hc hn,zc]
 ·rw[zF hn2,zD,if_neg hn2]
end
def outL(p q:Side)(n link:Int)(b:ByteArray):Int×ByteArray:=
 if¬(cfgC p q n).1=0 then(0,bs []) else if link=0 then outC p q n b else if link=1 then outC q p n b else(0,bs [])
theorem z1gh(p q:Side)(n link:Int)(b:ByteArray)(h:CfgOk p q)(hb:b.size≤1099511627776):Q208 ([p,q],n,()) link b=some (outL p q n link b):=by
 unfold Q208 zon outL
 rw[z17x p q n h,zc]
 by_cases hc:(cfgC p q n).1=0
 case neg=>rw[zF hc,if_pos hc];rfl
 have h0:=z1ax.1 hc
 rw[zT hc,Bool.not_true,zD,if_neg (fun e=>e hc)]
 by_cases l0:link=0
 ·subst l0
  rw[if_pos rfl,zF (by decide),zD,zF (by decide),zD]
  simp only[w0',w1',x10,gp',gq']
  exact z1o4 h h0 b hb [p,q]
 ·rw[if_neg l0]
  by_cases l1:link=1
  ·subst l1
   rw[if_pos rfl,zF (by decide),zD,zF (by decide),zD]
   simp only[w0',w1',x11,gp',gq']
   exact z1o4 h.symm h0.symm b hb [p,q]
  ·rw[if_neg l1]
   by_cases l2:link<0
   ·rw[zT l2];rfl
   ·rw[zF l2,zD,zT (by omega)];rfl
theorem z184(p q:Side)(n link:Int)(b:ByteArray)(h:CfgOk p q)(hc:(cfgC p q n).1=0)(hl:link=0∨link=1)(hb:b.size≤1099511627776):Q156 ([p,q],n,()) link b=some (outL p q n link b):=by
 have h0:=z1ax.1 hc
 unfold Q156 znc outL
 rw[if_neg (fun e=>e hc)]
 rcases hl with rfl|rfl
 ·rw[if_pos rfl]
  simp only[w0',w1',x10,gp',gq']
  exact ref24 h h0 b hb ([p,q],n,()) 0 (by decide) rfl rfl
 ·rw[if_neg (by decide),if_pos rfl]
  simp only[w0',w1',x11,gp',gq']
  exact ref24 h.symm h0.symm b hb ([p,q],n,()) 1 (by decide) rfl rfl
theorem z1gl(p q:Side)(n:Int)(h:CfgOk p q):Q157 ([p,q],n,())=some (decide ((cfgC p q n).1=0)):=by
 unfold Q157 znd
 rw[z1gc p q n h,zc]
theorem z1ya{c:zf4}(hc:Wf z153 c):∃p q n,c=([p,q],n,())∧∃g,Q154 c=some g∧(g=false→CfgOk p q):=by
 obtain⟨p,q,e⟩:=z1ou hc.1.1
 obtain⟨cl,n,u⟩:=c
 simp only[Prod.mk.injEq] at e
 obtain⟨rfl,_⟩:=e
 obtain⟨g,hg,hok⟩:=z1h8 (p:=p) (q:=q) hc
 exact⟨p,q,n,rfl,g,hg,hok⟩
theorem pure_RouteOutcomes(c:zf4)(link:Int)(b:ByteArray)(hc:Wf z153 c)(hl:Wf (.int .i64) link)(hb:Wf .str b):Q58 c link b=some true:=by
 obtain⟨p,q,n,rfl,g,hg,hok⟩:=z1ya hc
 unfold Q58 zw8
 rw[z1y9,zc,Bool.not_true,zD,hg,zc]
 cases g with
 |true=>rfl
 |false=>
  have h:=hok rfl
  rw[zD]
  by_cases hs:(3000:Int)<(b.size:Int)
  ·rw[zT hs];rfl
  rw[zF hs,zD,z1hw p q n h,zc,z1gh p q n link b h (by omega),zc,z1gl p q n h,zc]
  by_cases h0:(cfgC p q n).1=0
  case neg=>
   rw[zF h0,Bool.not_false,zC]
   unfold outL
   rw[if_pos h0];rfl
  rw[zT h0,Bool.not_true,zD]
  by_cases hli:link=0∨link=1
  ·rw[zF (by omega),zD,zF (by omega),zD,z184 p q n link b h h0 hli (by omega),zc]
   simp
  ·have ho:outL p q n link b=(0,bs []):=by
    unfold outL
    rw[if_neg (fun e=>e h0),if_neg (fun e=>hli (.inl e)),if_neg (fun e=>hli (.inr e))]
   rw[ho]
   by_cases l2:link<0
   ·rw[zT l2];rfl
   ·rw[zF l2,zD,zT (by omega)];rfl
end Groat

namespace Go.Proofs.YtkgpjibbdpikcaaGreatDoor
noncomputable section
open Go Go.Ref Groat
abbrev y0:Go.Ref.Ty:=(.pair (.sl 116 (.pair .str (.pair .str .unit))) .unit)
abbrev y1:Go.Ref.Ty:=(.pair (.sl 96 (.pair (.int .i64) (.pair .str .unit))) .unit)
abbrev y2:Go.Ref.Ty:=(.pair (.sl 90 (.pair (.int .i64) (.pair .str .unit))) .unit)
abbrev y3:Go.Ref.Ty:=(.pair (.int .i64) (.pair (.int .i64) (.pair (.int .i64) .unit)))
abbrev y4:Go.Ref.Ty:=(.pair .str y0)
abbrev y5:Go.Ref.Ty:=(.pair .str y2)
abbrev y6:Go.Ref.Ty:=(.pair (.int .i64) y3)
abbrev y7:Go.Ref.Ty:=(.pair (.int .i64) y4)
abbrev y8:Go.Ref.Ty:=(.pair (.sl 3 (.int .i64)) y1)
abbrev y9:Go.Ref.Ty:=(.pair (.int .i64) y6)
abbrev y10:Go.Ref.Ty:=(.pair (.int .i64) y7)
abbrev y11:Go.Ref.Ty:=(.pair (.sl 87 y9) .unit)
abbrev y12:Go.Ref.Ty:=(.pair (.int .i64) y10)
abbrev y13:Go.Ref.Ty:=(.pair (.int .i64) y11)
abbrev y14:Go.Ref.Ty:=(.pair (.sl 59 y12) .unit)
abbrev y15:Go.Ref.Ty:=(.pair (.int .i64) y13)
abbrev y16:Go.Ref.Ty:=(.pair (.sl 116 (.pair .str (.pair .str .unit))) y14)
abbrev y17:Go.Ref.Ty:=(.pair y16 y8)
abbrev y18:Go.Ref.Ty:=(.pair y15 y17)
abbrev y19:Go.Ref.Ty:=(.pair (.arr 2 y18) (.pair (.int .i64) .unit))
def tys:List (Option Ty):=[none,none,some (.int .i64),some (.int .i64),some .bool,some (.int .u8),some (.int .u8),some (.pair (.int .i64) (.pair (.int .i64) (.pair .bool (.pair (.int .u8) .unit)))),some (.pair (.int .i64) (.pair (.int .i64) (.pair .bool (.pair (.int .u8) .unit)))),some .str,some .str,some .str,some (.int .u64),none,none,none,none,none,none,none,none,some (.int .i32),some (.sl 87 y9),some y15,some y15,some (.sl 116 (.pair .str (.pair .str .unit))),some (.sl 59 y12),some y16,some y16,some (.sl 3 (.int .i64)),some (.sl 96 (.pair (.int .i64) (.pair .str .unit))),some y18,some y18,some (.arr 2 y18),some y19,some y19,none,none,some (.int .i64),none,none,none,none,none,none,none,none,some (.sl 90 (.pair (.int .i64) (.pair .str .unit))),some y5,some y5,none,none,none,none,none,none,none,none,some y12,some y12,none,none,none,none,none,none,none,none,none,some (.pair (.int .i64) (.pair (.int .i64) .unit)),some (.pair (.int .i64) (.pair (.int .i64) .unit)),none,none,none,none,none,none,none,none,none,none,none,none,none,none,none,some y9,some y9,none,some (.pair (.int .i64) (.pair .str .unit)),some (.pair (.int .i64) (.pair .str .unit)),none,none,none,none,some (.pair (.int .i64) (.pair .str .unit)),some (.pair (.int .i64) (.pair .str .unit)),none,none,none,none,some (.int .u64),some (.pair (.int .u64) (.pair (.int .u64) .unit)),some (.pair (.int .u64) (.pair (.int .u64) .unit)),none,none,none,none,none,none,none,some (.sl 9 .str),none,none,none,some (.pair .str (.pair .str .unit)),some (.pair .str (.pair .str .unit)),none,none,none,none,none,none,none,some (.sl 24 y15),none,none,none,none,none,none,none,none,none,none,none,none,none,none,none,none,none,none,none,none,some (.sl 5 (.int .u8)),none,none,none,none,none,none,none,none,none,none,none,none,none,none,none,none,none,none,none,none,none,none,none,none,none,none,none,none,none,none,none,none,none,none,none,none,none,none,none,none,some (.sl 38 (.int .i64)),some (.sl 29 (.sl 3 (.int .i64))),none,none,none,none,none,none,none,none,none,none,none,none,none,none,some (.sl 245 (.pair (.int .i64) (.pair .str .unit))),none,none,none,none,none,none,none,none,none,none,some (.arr 8 (.int .u8)),none,none,none,none,none,none,none,none,none,none,none,none,none,none,none,none,none,none,none,none,none,none,none,none,none,none,none,none,none,none,some (.pair (.int .i64) (.pair .str .unit)),some (.pair (.int .i64) (.pair .str .unit)),none,none,some (.int .u64),none,none,none,none,none,none,none,none,none,none,none,none,some (.arr 256 .bool),some (.arr 256 .bool),none,none,none,none,some (.int .u32),none,none,none,none,none,none,none,none,some (.arr 256 (.int .u8)),some (.pair (.int .u8) (.pair (.int .u8) .unit)),some (.pair (.int .u8) (.pair (.int .u8) .unit)),some (.arr 16 (.pair (.int .u8) (.pair (.int .u8) .unit))),none,none,none,none,none,none,none,none,some (.int .u8),some (.int .u8),none,some (.int .i32),some (.int .i32),none,none]
def bts:List Nat:=[0,8,8,8,1,1,1,24,24,16,16,16,8,24,24,8,8,8,8,8,16,4,24,40,40,24,24,48,48,24,24,136,136,272,280,280,8,8,8,0,8,8,0,8,0,8,8,24,40,40,0,8,8,8,8,8,8,8,64,64,8,8,8,8,8,8,8,8,8,16,16,8,0,8,8,0,8,8,8,8,0,8,8,8,0,8,40,40,8,24,24,0,8,8,8,24,24,8,8,8,8,8,16,16,8,8,8,8,8,8,8,24,8,8,8,32,32,8,0,8,0,8,8,8,24,8,8,8,8,8,8,8,8,8,8,8,8,8,8,8,8,8,8,8,8,24,32,32,16,16,0,8,8,8,0,8,8,8,8,0,8,0,8,8,8,8,0,8,0,8,0,8,0,8,8,8,0,8,8,8,8,8,8,8,8,8,24,24,8,8,8,8,8,0,8,8,8,8,0,8,8,8,24,0,8,8,8,8,8,8,8,0,8,8,8,8,8,8,0,8,0,8,8,8,8,0,8,0,8,8,0,8,8,8,8,8,8,8,8,0,8,8,8,8,24,24,8,8,8,8,8,8,8,8,8,0,8,8,8,8,8,256,256,0,8,8,8,4,0,8,8,0,8,8,8,8,256,2,2,32,8,8,8,40,40,0,0,0,1,1,8,4,4,48,48]
def pts:List Bool:=[false,false,false,false,false,false,false,false,false,false,false,false,false,false,false,true,true,true,false,false,false,false,false,false,false,false,false,false,false,false,false,false,false,false,false,false,false,false,false,false,false,false,false,false,false,false,false,false,false,false,false,false,false,false,false,false,false,false,false,false,false,false,false,false,false,false,false,false,false,false,false,false,false,false,false,false,false,false,false,false,false,false,false,false,false,false,false,false,false,false,false,false,false,false,false,false,false,false,false,false,false,false,false,false,false,false,false,false,false,false,false,false,false,false,false,false,false,false,false,false,false,false,false,false,false,false,false,false,false,false,false,false,false,false,false,false,false,false,false,false,false,false,false,false,true,false,false,false,false,false,false,false,false,false,false,false,false,false,false,false,false,false,false,false,false,false,false,false,false,false,false,false,false,false,false,false,false,false,false,false,false,false,false,false,false,false,false,false,false,false,false,false,false,false,false,false,false,false,false,false,false,false,false,false,false,false,false,false,false,false,false,false,false,false,false,false,false,true,false,false,false,false,false,false,false,false,false,false,false,false,false,false,false,false,false,false,false,false,false,false,false,false,false,false,false,false,false,false,false,false,false,false,false,false,false,false,false,false,false,false,false,false,false,false,false,false,true,false,false,false,false,false,false,false,false,false,false,false,false,false,false,false,false,false,false,false,false,false,false,false,false,false,false,false,false]
def mps:List (TypeId×TypeId×TypeId):=[(125,9,4),(253,3,4)]
def tab:Tab:=⟨tys,bts,pts,mps⟩
theorem zz2:tab.ok Tryz.prog=true:=by kernel_rfl
theorem ek:∀a b c d,EnvOk Tryz.prog (tab.env a b c d):=Tab.env_ok zz2
abbrev e0(ps:List Ty):Env:=tab.env (fun _=>[]) (fun _=>[]) [] ps
abbrev uS(n:Nat)(l:List (List SV)):List (List SV):=Nat.rec (motive:=fun _=>List (List SV)) l (fun _ r=>[.undef]::r) n
abbrev nS(n:Nat)(l:List (Option Box)):List (Option Box):=Nat.rec (motive:=fun _=>List (Option Box)) l (fun _ r=>none::r) n
def Tb0:Funs:=Funs.none
theorem o0:Okt Tryz.prog Tb0:= .none (by kernel_rfl)
variable (R:Type) (kk k:Nat) (K:KF R) (J:KX R)
def zuw:Env:=tab.env (fun i=>bif Nat.beq i 3 then [0,3,4] else []) (fun i=>bif Nat.beq i 3 then [3] else []) [] [(.sl 9 .str)]
def znh(a:(List ByteArray))(b:Zt16)(c:Int):Option R:=loopR (ev zuw (Tb0 R) kk (sub [1,1,0,1,0,0] (cd Tryz.f65))) [0,3,4] [3] k ⟨[.dat (.sl 9 .str) a []]::uS 2 ([.dat (.sl 116 (.pair .str (.pair .str .unit))) b [[]]]::[tI c]::uS 21 []),nS 27 []⟩ J
def zgq(a:Zt16):State:=⟨uS 3 ([.dat (.sl 116 (.pair .str (.pair .str .unit))) a [[]]]::uS 22 []),nS 27 []⟩
def z1ew:KX R:=(zk 0 (kSeq zuw (Tb0 R) kk (sub [1,1,1] (cd Tryz.f65)) (kFin zuw Tryz.f65.results.toList none K)))
theorem z1wf(a:(List ByteArray))(b:Zt16)(c:Int):znh R kk (k+1) J a b c=
 z11x a b c (znh R kk k J) (fun a0=>J (.exit 0) (zgq a0)):=by kernel_rfl
theorem z1jx(a:Zt16):z1ew R kk K (.exit 0) (zgq a)=
 z11y a (fun a0=>K [.dat (.sl 116 (.pair .str (.pair .str .unit))) a0 []] none):=by kernel_rfl
theorem z1r4{kk:Nat}(hF:kk=FUEL)(l_0:(List ByteArray))(t3:Zt16)(t4:Int):znh R kk k J l_0 t3 t4=(zni k l_0 t3 t4).bind fun e=>J (.exit 0) (zgq e):=by
 induction k generalizing l_0 t3 t4 with
 |zero=>rfl
 |succ k ih=>
  rw[z1wf]
  simp only[zni,z11x,ih,nn_]
def Tb1:Funs:=Tb0.add 65 [(.sl 9 .str)] (pu1 (.sl 9 .str) Q163 (fun _ r K=>K [.dat (.sl 116 (.pair .str (.pair .str .unit))) r []] none))
theorem o1:Okt Tryz.prog Tb1:=st1 zuw Tryz.f65 (fun R kk x0 K=>z11w x0 (znh R kk kk (z1ew R kk K))) o0 (ek _ _ _ _) Tryz.func65 (by kernel_rfl) rfl (fun _ _ _ _ _ _ h=>h _ _) (fun _ _ _ _=>by kernel_rfl) fun R kk e x0 K=>by
 simp only[Q163,z11w,z11y,z1r4 (hF:=e),z1jx,nn_,←e]
def z1zo:Env:=e0 []
def Tb2:Funs:=Tb1.add 129 [] (pu0 Q111 (fun _ r K=>K [.dat (.sl 3 (.int .i64)) r [[]]] none))
theorem o2:Okt Tryz.prog Tb2:=st0 z1zo Tryz.f129 (fun R kk K=>zzl (fun a0=>K [.dat (.sl 3 (.int .i64)) a0 [[]]] none)) o1 (ek _ _ _ _) Tryz.func129 (by kernel_rfl) rfl (fun _ _ _ _ _ _ h=>h _ _) (fun _ _ _=>by kernel_rfl) fun R kk e K=>by
 simp only[Q111,zzl,nn_]
def zuv:Env:={tab.env (fun i=>bif Nat.beq i 4 then [1,2,3] else []) (fun i=>bif Nat.beq i 4 then [1] else []) [] [] with mv:=[31]}
def znf(a:Zt24)(b:(List Int))(c:Int):Option R:=loopR (ev zuv (Tb2 R) kk (sub [1,1,1,0,1,0,0] (cd Tryz.f66))) [1,2,3] [1] k ⟨uS 1 ([.dat (.sl 59 y12) a [[]]]::[.dat (.sl 3 (.int .i64)) b [[]]]::[tI c]::uS 28 []),nS 33 []⟩ J
def zgp(a:Zt24):State:=⟨uS 1 ([.dat (.sl 59 y12) a [[]]]::uS 30 []),nS 33 []⟩
def z1ev:KX R:=(zk 0 (kSeq zuv (Tb2 R) kk (sub [1,1,1,1] (cd Tryz.f66)) (kFin zuv Tryz.f66.results.toList none K)))
theorem z1we(a:Zt24)(b:(List Int))(c:Int):znf R kk (k+1) J a b c=
 z11u a b c (znf R kk k J) (fun a0=>J (.exit 0) (zgp a0)):=by kernel_rfl
theorem z1jw(a:Zt24):z1ev R kk K (.exit 0) (zgp a)=
 z11v a (fun a0=>K [.dat (.sl 59 y12) a0 [[]]] none):=by kernel_rfl
theorem z1r3{kk:Nat}(hF:kk=FUEL)(t1:Zt24)(t2:(List Int))(t3:Int):znf R kk k J t1 t2 t3=(zng k t1 t2 t3).bind fun e=>J (.exit 0) (zgp e):=by
 induction k generalizing t1 t2 t3 with
 |zero=>rfl
 |succ k ih=>
  rw[z1we]
  simp only[zng,z11u,ih,nn_]
def Tb3:Funs:=Tb2.add 66 [] (pu0 Q162 (fun _ r K=>K [.dat (.sl 59 y12) r [[]]] none))
theorem o3:Okt Tryz.prog Tb3:=st0 zuv Tryz.f66 (fun R kk K=>z11t (znf R kk kk (z1ev R kk K))) o2 ((ek _ _ _ _).mv _) Tryz.func66 (by kernel_rfl) rfl (fun _ _ _ _ _ _ h=>h _ _) (fun _ _ _=>by kernel_rfl) fun R kk e K=>by
 simp only[Q162,z11t,z11v,z1r3 (hF:=e),z1jw,nn_,←e]
def zuh:Env:=tab.env (fun i=>bif Nat.beq i 3 then [0,3,4] else []) (fun i=>bif Nat.beq i 3 then [3] else []) [] [(.sl 116 (.pair .str (.pair .str .unit)))]
def zlt(a b:Zt16)(c:Int):Option R:=loopR (ev zuh (Tb3 R) kk (sub [1,1,0,1,0,0] (cd Tryz.f67))) [0,3,4] [3] k ⟨[.dat (.sl 116 (.pair .str (.pair .str .unit))) a []]::uS 2 ([.dat (.sl 116 (.pair .str (.pair .str .unit))) b [[]]]::[tI c]::uS 22 []),nS 28 []⟩ J
def zfo(a:Zt16):State:=⟨uS 3 ([.dat (.sl 116 (.pair .str (.pair .str .unit))) a [[]]]::uS 23 []),nS 28 []⟩
def z1ef:KX R:=(zk 0 (kSeq zuh (Tb3 R) kk (sub [1,1,1] (cd Tryz.f67)) (kFin zuh Tryz.f67.results.toList none K)))
theorem z1vr(a b:Zt16)(c:Int):zlt R kk (k+1) J a b c=
 z107 a b c (zlt R kk k J) (fun a0=>J (.exit 0) (zfo a0)):=by kernel_rfl
theorem z1iq(a:Zt16):z1ef R kk K (.exit 0) (zfo a)=
 z108 a (fun a0=>K [.dat (.sl 116 (.pair .str (.pair .str .unit))) a0 []] none):=by kernel_rfl
theorem z1q5{kk:Nat}(hF:kk=FUEL)(l_0 t3:Zt16)(t4:Int):zlt R kk k J l_0 t3 t4=(zlu k l_0 t3 t4).bind fun e=>J (.exit 0) (zfo e):=by
 induction k generalizing l_0 t3 t4 with
 |zero=>rfl
 |succ k ih=>
  rw[z1vr]
  simp only[zlu,z107,ih,nn_]
def Tb4:Funs:=Tb3.add 67 [(.sl 116 (.pair .str (.pair .str .unit)))] (pu1 (.sl 116 (.pair .str (.pair .str .unit))) Q129 (fun _ r K=>K [.dat (.sl 116 (.pair .str (.pair .str .unit))) r []] none))
theorem o4:Okt Tryz.prog Tb4:=st1 zuh Tryz.f67 (fun R kk x0 K=>z106 x0 (zlt R kk kk (z1ef R kk K))) o3 (ek _ _ _ _) Tryz.func67 (by kernel_rfl) rfl (fun _ _ _ _ _ _ h=>h _ _) (fun _ _ _ _=>by kernel_rfl) fun R kk e x0 K=>by
 simp only[Q129,z106,z108,z1q5 (hF:=e),z1iq,nn_,←e]
def z1zp:Env:=e0 []
def Tb5:Funs:=Tb4.add 130 [] (pu0 Q113 (fun _ r K=>K [.dat (.sl 29 (.sl 3 (.int .i64))) r [[]]] none))
theorem o5:Okt Tryz.prog Tb5:=st0 z1zp Tryz.f130 (fun R kk K=>zzp (fun a0=>K [.dat (.sl 29 (.sl 3 (.int .i64))) a0 [[]]] none)) o4 (ek _ _ _ _) Tryz.func130 (by kernel_rfl) rfl (fun _ _ _ _ _ _ h=>h _ _) (fun _ _ _=>by kernel_rfl) fun R kk e K=>by
 simp only[Q113,zzp,nn_]
def zu7:Env:=tab.env (fun i=>bif Nat.beq i 4 then [0,2,3,4,5] else []) (fun i=>bif Nat.beq i 4 then [2,3] else []) [2] [(.int .i64)]
def zl4(a:Int)(b:Zt4)(c:Int)(d e:Zt20):Option R:=loopR (ev zu7 (Tb5 R) kk (sub [1,1,1,0,1,0,0] (cd Tryz.f68))) [0,2,3,4,5] [2,3] k ⟨[tI a]::uS 1 ([.ptr 3 y15 []]::[.ptr 4 y15 []]::[.dat (.sl 29 (.sl 3 (.int .i64))) b [[]]]::[tI c]::uS 52 []),nS 3 ((some ⟨y15,d,[[2]]⟩)::(some ⟨y15,e,[[2]]⟩)::nS 54 [])⟩ J
def zfb(a b:Zt20):State:=⟨uS 2 ([.ptr 3 y15 []]::[.ptr 4 y15 []]::uS 54 []),nS 3 ((some ⟨y15,a,[[2]]⟩)::(some ⟨y15,b,[[2]]⟩)::nS 54 [])⟩
def z1ea:KX R:=(zk 0 (kSeq zu7 (Tb5 R) kk (sub [1,1,1,1] (cd Tryz.f68)) (kFin zu7 Tryz.f68.results.toList none K)))
theorem z1vi(a:Int)(b:Zt4)(c:Int)(d e:Zt20):zl4 R kk (k+1) J a b c d e=
 zzn a b c d e (zl4 R kk k J) (fun a0 a1=>J (.exit 0) (zfb a0 a1)):=by kernel_rfl
theorem z1id(a b:Zt20):z1ea R kk K (.exit 0) (zfb a b)=
 zzo a b (fun a0=>K [.dat y15 a0 [[2]]] none):=by kernel_rfl
theorem z1pw{kk:Nat}(hF:kk=FUEL)(which_0:Int)(t4:Zt4)(t5:Int)(bt2 bt3:Zt20):zl4 R kk k J which_0 t4 t5 bt2 bt3=(zl5 k which_0 t4 t5 bt2 bt3).bind fun e=>J (.exit 0) (zfb e.1 e.2):=by
 induction k generalizing which_0 t4 t5 bt2 bt3 with
 |zero=>rfl
 |succ k ih=>
  rw[z1vi]
  simp only[zl5,zzn,ih,nn_]
def Tb6:Funs:=Tb5.add 68 [(.int .i64)] (pu1 (.int .i64) Q112 (fun _ r K=>K [.dat y15 r [[2]]] none))
theorem o6:Okt Tryz.prog Tb6:=st1 zu7 Tryz.f68 (fun R kk x0 K=>zzm x0 (zl4 R kk kk (z1ea R kk K))) o5 (ek _ _ _ _) Tryz.func68 (by kernel_rfl) rfl (fun _ _ _ _ _ _ h=>h _ _) (fun _ _ _ _=>by kernel_rfl) fun R kk e x0 K=>by
 simp only[Q112,zzm,zzo,z1pw (hF:=e),z1id,nn_,←e]
def z209:Env:=e0 [.str,.str,.str]
def Tb7:Funs:=Tb6.add 69 [.str,.str,.str] (pu3 .str .str .str Q161 (fun _ r K=>K [.dat (.sl 96 (.pair (.int .i64) (.pair .str .unit))) r [[]]] none))
theorem o7:Okt Tryz.prog Tb7:=st3 z209 Tryz.f69 (fun R kk x0 x1 x2 K=>z11s x0 x1 x2 (fun a0=>K [.dat (.sl 96 (.pair (.int .i64) (.pair .str .unit))) a0 [[]]] none)) o6 (ek _ _ _ _) Tryz.func69 (by kernel_rfl) rfl (fun _ _ _ _ _ _ h=>h _ _) (fun _ _ _ _ _ _=>by kernel_rfl) fun R kk e x0 x1 x2 K=>by
 simp only[Q161,z11s,nn_]
def z203:Env:={tab.env (fun _=>[]) (fun _=>[]) [0] [] with sh:=[47,59]}
def Tb8:Funs:=Tb7.add 26 [] (pu0 Q151 (fun _ r K=>K [.dat y19 r [[0,((1:Int)).toNat,3],[0,((1:Int)).toNat,2],[0,((1:Int)).toNat,0,2],[0,((0:Int)).toNat,3],[0,((0:Int)).toNat,0,2]]] none))
theorem o8:Okt Tryz.prog Tb8:=st0 z203 Tryz.f26 (fun R kk K=>z11n (fun a0=>K [.dat y19 a0 [[0,((1:Int)).toNat,3],[0,((1:Int)).toNat,2],[0,((1:Int)).toNat,0,2],[0,((0:Int)).toNat,3],[0,((0:Int)).toNat,0,2]]] none)) o7 ((ek _ _ _ _).sh _) Tryz.func26 (by kernel_rfl) rfl (fun _ _ _ _ _ _ h=>h _ _) (fun _ _ _=>by kernel_rfl) fun R kk e K=>by
 simp only[Q151,z11n,nn_]
def Q19_E:Env:=e0 [(.int .i64)]
def Tb9:Funs:=Tb8.add 211 [(.int .i64)] (pu1 (.int .i64) Q19 (fun _ r K=>K [tI r] none))
theorem o9:Okt Tryz.prog Tb9:=st1 Q19_E Tryz.f211 (fun R kk x0 K=>zv7 x0 (fun a0=>K [tI a0] none)) o8 (ek _ _ _ _) Tryz.func211 (by kernel_rfl) rfl (fun _ _ _ _ _ _ h=>h _ _) (fun _ _ _ _=>by kernel_rfl) fun R kk e x0 K=>by
 simp only[Q19,zv7,nn_]
def Q16_E:Env:=e0 [(.int .i64)]
def Tb10:Funs:=Tb9.add 186 [(.int .i64)] (pu1 (.int .i64) Q16 (fun _ r K=>K [tB r] none))
theorem o10:Okt Tryz.prog Tb10:=st1 Q16_E Tryz.f186 (fun R kk x0 K=>zux x0 (fun a0=>K [tB a0] none)) o9 (ek _ _ _ _) Tryz.func186 (by kernel_rfl) rfl (fun _ _ _ _ _ _ h=>h _ _) (fun _ _ _ _=>by kernel_rfl) fun R kk e x0 K=>by
 simp only[Q16,zux,nn_]
def z20m:Env:=e0 [(.int .i64)]
def Tb11:Funs:=Tb10.add 202 [(.int .i64)] (pu1 (.int .i64) Q197 (fun _ r K=>K [tI r] none))
theorem o11:Okt Tryz.prog Tb11:=st1 z20m Tryz.f202 (fun R kk x0 K=>zch x0 (fun a0=>K [tI a0] none)) o10 (ek _ _ _ _) Tryz.func202 (by kernel_rfl) rfl (fun _ _ _ _ _ _ h=>h _ _) (fun _ _ _ _=>by kernel_rfl) fun R kk e x0 K=>by
 simp only[Q197,zch,nn_]
def zv5:Env:=tab.env (fun i=>bif Nat.beq i 3 then [3,5,6] else []) (fun i=>bif Nat.beq i 3 then [3] else []) [] [(.int .i64)]
def zo3(a b c:Int):Option R:=loopR (ev zv5 (Tb11 R) kk (sub [1,1,0,1,0,0] (cd Tryz.f187))) [3,5,6] [3] k ⟨uS 3 ([tI a]::uS 1 ([tI b]::[tI c]::uS 6 [])),nS 14 []⟩ J
def zh0(a:Int):State:=⟨uS 3 ([tI a]::uS 9 []),nS 14 []⟩
def z1f0:KX R:=(zk 0 (kSeq zv5 (Tb11 R) kk (sub [1,1,1] (cd Tryz.f187)) (kFin zv5 Tryz.f187.results.toList none K)))
theorem z1wm(a b c:Int):zo3 R kk (k+1) J a b c=
 z12j a b c (zo3 R kk k J) (fun a0=>J (.exit 0) (zh0 a0)):=by kernel_rfl
theorem z1k7(a:Int):z1f0 R kk K (.exit 0) (zh0 a)=
 z12k a (fun a0=>K [tI a0] none):=by kernel_rfl
theorem z1rb{kk:Nat}(hF:kk=FUEL)(t3 t5 t6:Int):zo3 R kk k J t3 t5 t6=(zo4 k t3 t5 t6).bind fun e=>J (.exit 0) (zh0 e):=by
 induction k generalizing t3 t5 t6 with
 |zero=>rfl
 |succ k ih=>
  rw[z1wm]
  simp only[zo4,z12j,ih,nn_]
def Tb12:Funs:=Tb11.add 187 [(.int .i64)] (pu1 (.int .i64) Q194 (fun _ r K=>K [tI r] none))
theorem o12:Okt Tryz.prog Tb12:=st1 zv5 Tryz.f187 (fun R kk x0 K=>z12i x0 (zo3 R kk kk (z1f0 R kk K))) o11 (ek _ _ _ _) Tryz.func187 (by kernel_rfl) rfl (fun _ _ _ _ _ _ h=>h _ _) (fun _ _ _ _=>by kernel_rfl) fun R kk e x0 K=>by
 simp only[Q194,z12i,z12k,z1rb (hF:=e),z1k7,nn_,←e]
def z210:Env:=e0 [y9]
def Tb13:Funs:=Tb12.add 131 [y9] (pu1 y9 Q228 (fun _ r K=>K [tI r] none))
theorem o13:Okt Tryz.prog Tb13:=st1 z210 Tryz.f131 (fun R kk x0 K=>zp8 x0 (fun a0=>K [tI a0] none)) o12 (ek _ _ _ _) Tryz.func131 (by kernel_rfl) rfl (fun _ _ _ _ _ _ h=>h _ _) (fun _ _ _ _=>by kernel_rfl) fun R kk e x0 K=>by
 simp only[Q228,zp8,nn_]
def zvc:Env:=tab.env (fun i=>bif Nat.beq i 6 then [1,26,27,28] else []) (fun i=>bif Nat.beq i 6 then [2,3] else []) [] [y15]
def zov(a:Zt17)(b c:Int)(d:Zt20):Option R:=loopR (ev zvc (Tb13 R) kk (sub [1,1,0,1,0,0] (cd Tryz.f72))) [1,26,27,28] [2,3] k ⟨uS 1 ([.ptr 2 y15 []]::uS 24 ([.dat (.sl 87 y9) a []]::[tI b]::[tI c]::uS 26 [])),nS 2 ((some ⟨y15,d,[]⟩)::nS 53 [])⟩ J
def zhf(a b:Int):State:=⟨uS 2 ([tI a]::[tI b]::uS 51 []),nS 56 []⟩
def zhg:State:=⟨uS 55 [],nS 56 []⟩
def z134:KX R:=(zk 1 (kSeq zvc (Tb13 R) kk (sub [1,1,1] (cd Tryz.f72)) (kFin zvc Tryz.f72.results.toList none K)))
theorem z1ww(a:Zt17)(b c:Int)(d:Zt20):zov R kk (k+1) J a b c d=
 zcn a b c d (fun a0 a1=>J .ret (zhf a0 a1)) (zov R kk k J) (J (.exit 1) (zhg)):=by kernel_rfl
theorem z1kl(a b:Int):z134 R kk K .ret (zhf a b)=
 zow a b (fun a0 a1=>K [tI a0,tI a1] none):=by kernel_rfl
theorem z1km:z134 R kk K (.exit 1) (zhg)=
 zox (fun a0 a1=>K [tI a0,tI a1] none):=by kernel_rfl
theorem z1rl{kk:Nat}(hF:kk=FUEL)(t26:Zt17)(t27 t28:Int)(bt1:Zt20):zov R kk k J t26 t27 t28 bt1=(z5z k t26 t27 t28 bt1).bind fun e=>(Sum.elim (fun(we:(Int×Int))=>J .ret (zhf we.1 we.2)) (fun(we:Unit)=>J (.exit 1) (zhg)) e):=by
 induction k generalizing t26 t27 t28 bt1 with
 |zero=>rfl
 |succ k ih=>
  rw[z1ww]
  simp only[z5z,zcn,ih,nn_]
def Tb14:Funs:=Tb13.add 72 [y15] (pu1 y15 Q221 (fun _ r K=>K [tI r.1,tI r.2] none))
theorem o14:Okt Tryz.prog Tb14:=st1 zvc Tryz.f72 (fun R kk x0 K=>z97 x0 (fun a0 a1=>K [tI a0,tI a1] none) (fun a0 a1 a2 a3=>zov R kk kk (z134 R kk K) a0 a1 a2 a3)) o13 (ek _ _ _ _) Tryz.func72 (by kernel_rfl) rfl (fun _ _ _ _ _ _ h=>h _ _) (fun _ _ _ _=>by kernel_rfl) fun R kk e x0 K=>by
 simp only[Q221,z193,zow,zox,z1rl (hF:=e),z1kl,z1km,nn_,←e]
def zvd:Env:=tab.env (fun i=>bif Nat.beq i 2 then [1,4,9,10,11] else []) (fun i=>bif Nat.beq i 2 then [4,5] else []) [4] [y15,(.int .i64)]
def zoy(a:Int)(b:Zt17)(c d:Int)(e:Zt15):Option R:=loopR (ev zvd (Tb14 R) kk (sub [1,0,1,0,0] (cd Tryz.f73))) [1,4,9,10,11] [4,5] k ⟨uS 1 ([tI a]::uS 2 ([.ptr 5 y9 []]::uS 4 ([.dat (.sl 87 y9) b []]::[tI c]::[tI d]::uS 10 []))),nS 5 ((some ⟨y9,e,[]⟩)::nS 17 [])⟩ J
def zhh(a:Bool)(b:Zt15):State:=⟨uS 4 ([.ptr 5 y9 []]::[tB a]::uS 16 []),nS 5 ((some ⟨y9,b,[]⟩)::nS 17 [])⟩
def zhi(a:Zt15):State:=⟨uS 4 ([.ptr 5 y9 []]::uS 17 []),nS 5 ((some ⟨y9,a,[]⟩)::nS 17 [])⟩
def z135:KX R:=(zk 0 (kSeq zvd (Tb14 R) kk (sub [1,1] (cd Tryz.f73)) (kFin zvd Tryz.f73.results.toList none K)))
theorem z1wx(a:Int)(b:Zt17)(c d:Int)(e:Zt15):zoy R kk (k+1) J a b c d e=
 z136 a b c d e (fun a0 a1=>J .ret (zhh a0 a1)) (zoy R kk k J) (fun a0=>J (.exit 0) (zhi a0)):=by kernel_rfl
theorem z1kn(a:Bool)(b:Zt15):z135 R kk K .ret (zhh a b)=
 z137 a b (fun a0 a1=>K [.dat y9 a0 [],tB a1] none):=by kernel_rfl
theorem z1ko(a:Zt15):z135 R kk K (.exit 0) (zhi a)=
 z138 a (fun a0 a1=>K [.dat y9 a0 [],tB a1] none):=by kernel_rfl
theorem z1rm{kk:Nat}(hF:kk=FUEL)(no_1:Int)(t9:Zt17)(t10 t11:Int)(bt4:Zt15):zoy R kk k J no_1 t9 t10 t11 bt4=(zco k no_1 t9 t10 t11 bt4).bind fun e=>(Sum.elim (fun(we:(Bool×Zt15))=>J .ret (zhh we.1 we.2)) (fun(we:Zt15)=>J (.exit 0) (zhi we)) e):=by
 induction k generalizing no_1 t9 t10 t11 bt4 with
 |zero=>rfl
 |succ k ih=>
  rw[z1wx]
  simp only[zco,z136,ih,nn_]
def Tb15:Funs:=Tb14.add 73 [y15,(.int .i64)] (pu2 y15 (.int .i64) Q222 (fun _ r K=>K [.dat y9 r.1 [],tB r.2] none))
theorem o15:Okt Tryz.prog Tb15:=st2 zvd Tryz.f73 (fun R kk x0 x1 K=>zoz x0 x1 (zoy R kk kk (z135 R kk K))) o14 (ek _ _ _ _) Tryz.func73 (by kernel_rfl) rfl (fun _ _ _ _ _ _ h=>h _ _) (fun _ _ _ _ _=>by kernel_rfl) fun R kk e x0 x1 K=>by
 simp only[Q222,zoz,z137,z138,z1rm (hF:=e),z1kn,z1ko,nn_,←e]
def zvg:Env:=tab.env (fun i=>bif Nat.beq i 2 then [0,1,7,8] else []) (fun i=>bif Nat.beq i 2 then [4] else []) [] [(.sl 3 (.int .i64)),(.int .i64)]
def zp6(a:(List Int))(b c d:Int):Option R:=loopR (ev zvg (Tb15 R) kk (sub [1,0,1,0,0] (cd Tryz.f188))) [0,1,7,8] [4] k ⟨[.dat (.sl 3 (.int .i64)) a []]::[tI b]::uS 5 ([tI c]::[tI d]::uS 10 []),nS 20 []⟩ J
def zhn(a:Int):State:=⟨uS 4 ([tI a]::uS 14 []),nS 20 []⟩
def zho:State:=⟨uS 19 [],nS 20 []⟩
def z13h:KX R:=(zk 0 (kSeq zvg (Tb15 R) kk (sub [1,1] (cd Tryz.f188)) (kFin zvg Tryz.f188.results.toList none K)))
theorem z1x0(a:(List Int))(b c d:Int):zp6 R kk (k+1) J a b c d=
 z13i a b c d (fun a0=>J .ret (zhn a0)) (zp6 R kk k J) (J (.exit 0) (zho)):=by kernel_rfl
theorem z1kt(a:Int):z13h R kk K .ret (zhn a)=
 z13j a (fun a0=>K [tI a0] none):=by kernel_rfl
theorem z1ku:z13h R kk K (.exit 0) (zho)=
 z13k (fun a0=>K [tI a0] none):=by kernel_rfl
theorem z1rp{kk:Nat}(hF:kk=FUEL)(a_0:(List Int))(a_1 t7 t8:Int):zp6 R kk k J a_0 a_1 t7 t8=(zcr k a_0 a_1 t7 t8).bind fun e=>(Sum.elim (fun(we:Int)=>J .ret (zhn we)) (fun(we:Unit)=>J (.exit 0) (zho)) e):=by
 induction k generalizing a_0 a_1 t7 t8 with
 |zero=>rfl
 |succ k ih=>
  rw[z1x0]
  simp only[zcr,z13i,ih,nn_]
def Tb16:Funs:=Tb15.add 188 [(.sl 3 (.int .i64)),(.int .i64)] (pu2 (.sl 3 (.int .i64)) (.int .i64) Q227 (fun _ r K=>K [tI r] none))
theorem o16:Okt Tryz.prog Tb16:=st2 zvg Tryz.f188 (fun R kk x0 x1 K=>zp7 x0 x1 (zp6 R kk kk (z13h R kk K))) o15 (ek _ _ _ _) Tryz.func188 (by kernel_rfl) rfl (fun _ _ _ _ _ _ h=>h _ _) (fun _ _ _ _ _=>by kernel_rfl) fun R kk e x0 x1 K=>by
 simp only[Q227,zp7,z13j,z13k,z1rp (hF:=e),z1kt,z1ku,nn_,←e]
def z20z:Env:=e0 [(.sl 3 (.int .i64)),(.int .i64)]
def Tb17:Funs:=Tb16.add 132 [(.sl 3 (.int .i64)),(.int .i64)] (pu2 (.sl 3 (.int .i64)) (.int .i64) Q224 (fun _ r K=>K [tB r] none))
theorem o17:Okt Tryz.prog Tb17:=st2 z20z Tryz.f132 (fun R kk x0 x1 K=>zp1 x0 x1 (fun a0=>K [tB a0] none)) o16 (ek _ _ _ _) Tryz.func132 (by kernel_rfl) rfl (fun _ _ _ _ _ _ h=>h _ _) (fun _ _ _ _ _=>by kernel_rfl) fun R kk e x0 x1 K=>by
 simp only[Q224,zp1,nn_]
def z20q:Env:=e0 [y18,(.int .i64)]
def Tb18:Funs:=Tb17.add 74 [y18,(.int .i64)] (pu2 y18 (.int .i64) Q203 (fun _ r K=>K [tI r] none))
theorem o18:Okt Tryz.prog Tb18:=st2 z20q Tryz.f74 (fun R kk x0 x1 K=>zok x0 x1 (fun a0=>K [tI a0] none)) o17 (ek _ _ _ _) Tryz.func74 (by kernel_rfl) rfl (fun _ _ _ _ _ _ h=>h _ _) (fun _ _ _ _ _=>by kernel_rfl) fun R kk e x0 x1 K=>by
 simp only[Q203,zok,nn_]
def z20p:Env:=e0 [(.pair (.int .i64) (.pair .str .unit)),.unit]
def Tb19:Funs:=Tb18.add 134 [(.pair (.int .i64) (.pair .str .unit)),.unit] (pz (.pair (.int .i64) (.pair .str .unit)) (.pair (.int .i64) (.pair .str .unit)) (.pair (.int .i64) (.pair .str .unit)) [] Q202 (fun _ r K=>K [tB r.1] (some ⟨(.pair (.int .i64) (.pair .str .unit)),r.2,[]⟩)))
theorem o19:Okt Tryz.prog Tb19:=sz z20p Tryz.f134 (fun R kk x0 x1 K=>zoj x0 x1 (fun a0 a1=>K [tB a0] (some ⟨(.pair (.int .i64) (.pair .str .unit)),a1,[]⟩))) o18 (ek _ _ _ _) Tryz.func134 (by kernel_rfl) rfl (fun _ _ _ _ _ _ h=>h _ _) (fun _ _ _ _ _=>by kernel_rfl) fun R kk e x0 x1 K=>by
 simp only[Q202,zoj,nn_]
def zve:Env:=tab.env (fun i=>bif Nat.beq i 2 then [0,1,7,8] else []) (fun i=>bif Nat.beq i 2 then [4] else []) [] [(.sl 96 (.pair (.int .i64) (.pair .str .unit))),.unit]
def zp2(a:Zt13)(b c:Int)(d:Zt9):Option R:=loopR (ev zve (Tb19 R) kk (sub [1,0,1,0,0] (cd Tryz.f189))) [0,1,7,8] [4] k ⟨[.dat (.sl 96 (.pair (.int .i64) (.pair .str .unit))) a []]::[.ptr 0 (.spc (.clo 134) (.pair (.int .i64) (.pair .str .unit)) .unit) []]::uS 5 ([tI b]::[tI c]::uS 10 []),(some ⟨(.pair (.int .i64) (.pair .str .unit)),d,[]⟩)::nS 19 []⟩ J
def zhj(a:Int)(b:Zt9):State:=⟨uS 4 ([tI a]::uS 14 []),(some ⟨(.pair (.int .i64) (.pair .str .unit)),b,[]⟩)::nS 19 []⟩
def zhk(a:Zt9):State:=⟨uS 19 [],(some ⟨(.pair (.int .i64) (.pair .str .unit)),a,[]⟩)::nS 19 []⟩
def z139(a:Zt9):KX R:=(zk 0 (kSeq zve (Tb19 R) kk (sub [1,1] (cd Tryz.f189)) (kFin zve Tryz.f189.results.toList (some ⟨(.pair (.int .i64) (.pair .str .unit)),a,[]⟩) K)))
theorem z1wy(a:Zt13)(b c:Int)(d:Zt9):zp2 R kk (k+1) J a b c d=
 z13a a b c d (fun a0 a1=>J .ret (zhj a0 a1)) (zp2 R kk k J) (fun a0=>J (.exit 0) (zhk a0)):=by kernel_rfl
theorem z1kp(a:Zt9)(b:Int)(c:Zt9):z139 R kk K a .ret (zhj b c)=
 z13b b c (fun a0 a1=>K [tI a0] (some ⟨(.pair (.int .i64) (.pair .str .unit)),a1,[]⟩)):=by kernel_rfl
theorem z1kq(a b:Zt9):z139 R kk K a (.exit 0) (zhk b)=
 z13c b (fun a0 a1=>K [tI a0] (some ⟨(.pair (.int .i64) (.pair .str .unit)),a1,[]⟩)):=by kernel_rfl
theorem z1rn{kk:Nat}(hF:kk=FUEL)(a_0:Zt13)(t7 t8:Int)(recv:Zt9):zp2 R kk k J a_0 t7 t8 recv=(zcp k a_0 t7 t8 recv).bind fun e=>(Sum.elim (fun(we:(Int×Zt9))=>J .ret (zhj we.1 we.2)) (fun(we:Zt9)=>J (.exit 0) (zhk we)) e):=by
 induction k generalizing a_0 t7 t8 recv with
 |zero=>rfl
 |succ k ih=>
  rw[z1wy]
  simp only[zcp,z13a,ih,nn_]
def Tb20:Funs:=Tb19.add 189 [(.sl 96 (.pair (.int .i64) (.pair .str .unit))),.unit] (pz (.sl 96 (.pair (.int .i64) (.pair .str .unit))) (.spc (.clo 134) (.pair (.int .i64) (.pair .str .unit)) .unit) (.pair (.int .i64) (.pair .str .unit)) [] Q225 (fun _ r K=>K [tI r.1] (some ⟨(.pair (.int .i64) (.pair .str .unit)),r.2,[]⟩)))
theorem o20:Okt Tryz.prog Tb20:=sz zve Tryz.f189 (fun R kk x0 x1 K=>zp3 x0 x1 (zp2 R kk kk (z139 R kk K x1))) o19 (ek _ _ _ _) Tryz.func189 (by kernel_rfl) rfl (fun _ _ _ _ _ _ h=>h _ _) (fun _ _ _ _ _=>by kernel_rfl) fun R kk e x0 x1 K=>by
 simp only[Q225,zp3,z13b,z13c,z1rn (hF:=e),z1kp,z1kq,nn_,←e]
def z20y:Env:=e0 [(.sl 96 (.pair (.int .i64) (.pair .str .unit))),.unit]
def Tb21:Funs:=Tb20.add 133 [(.sl 96 (.pair (.int .i64) (.pair .str .unit))),.unit] (pz (.sl 96 (.pair (.int .i64) (.pair .str .unit))) (.spc (.clo 134) (.pair (.int .i64) (.pair .str .unit)) .unit) (.pair (.int .i64) (.pair .str .unit)) [] Q223 (fun _ r K=>K [tB r.1] (some ⟨(.pair (.int .i64) (.pair .str .unit)),r.2,[]⟩)))
theorem o21:Okt Tryz.prog Tb21:=sz z20y Tryz.f133 (fun R kk x0 x1 K=>zp0 x0 x1 (fun a0 a1=>K [tB a0] (some ⟨(.pair (.int .i64) (.pair .str .unit)),a1,[]⟩))) o20 (ek _ _ _ _) Tryz.func133 (by kernel_rfl) rfl (fun _ _ _ _ _ _ h=>h _ _) (fun _ _ _ _ _=>by kernel_rfl) fun R kk e x0 x1 K=>by
 simp only[Q223,zp0,nn_]
def Q18_E:Env:=e0 [(.int .u8)]
def Tb22:Funs:=Tb21.add 212 [(.int .u8)] (pu1 (.int .u8) Q18 (fun _ r K=>K [tI r] none))
theorem o22:Okt Tryz.prog Tb22:=st1 Q18_E Tryz.f212 (fun R kk x0 K=>z18y x0 (fun a0=>K [tI a0] none)) o21 (ek _ _ _ _) Tryz.func212 (by kernel_rfl) rfl (fun _ _ _ _ _ _ h=>h _ _) (fun _ _ _ _=>by kernel_rfl) fun R kk e x0 K=>by
 simp only[Q18,z18y,nn_]
def Q15_E:Env:=tab.env (fun i=>bif Nat.beq i 3 then [1,5,6] else []) (fun i=>bif Nat.beq i 3 then [4] else []) [] [(.int .i64),.str]
def zut(a:ByteArray)(b c:Int):Option R:=loopR (ev Q15_E (Tb22 R) kk (sub [1,1,0,1,0,0] (cd Tryz.f190))) [1,5,6] [4] k ⟨uS 1 ([tS a]::uS 3 ([tI b]::[tI c]::uS 16 [])),nS 24 []⟩ J
def zs1(a:Int):State:=⟨uS 4 ([tI a]::uS 18 []),nS 24 []⟩
def zs2:State:=⟨uS 23 [],nS 24 []⟩
def z18v:KX R:=(zk 0 (kSeq Q15_E (Tb22 R) kk (sub [1,1,1] (cd Tryz.f190)) (kFin Q15_E Tryz.f190.results.toList none K)))
theorem z207(a:ByteArray)(b c:Int):zut R kk (k+1) J a b c=
 zgo a b c (fun a0=>J .ret (zs1 a0)) (zut R kk k J) (J (.exit 0) (zs2)):=by kernel_rfl
theorem z1r1(a:Int):z18v R kk K .ret (zs1 a)=
 z18w a (fun a0=>K [tI a0] none):=by kernel_rfl
theorem z1r2:z18v R kk K (.exit 0) (zs2)=
 z18x (fun a0=>K [tI a0] none):=by kernel_rfl
theorem z1wd{kk:Nat}(hF:kk=FUEL)(s_1:ByteArray)(t5 t6:Int):zut R kk k J s_1 t5 t6=(z9o k s_1 t5 t6).bind fun e=>(Sum.elim (fun(we:Int)=>J .ret (zs1 we)) (fun(we:Unit)=>J (.exit 0) (zs2)) e):=by
 induction k generalizing s_1 t5 t6 with
 |zero=>rfl
 |succ k ih=>
  rw[z207]
  simp only[z9o,zgo,ih,nn_]
def Tb23:Funs:=Tb22.add 190 [(.int .i64),.str] (pu2 (.int .i64) .str Q15 (fun _ r K=>K [tI r] none))
theorem o23:Okt Tryz.prog Tb23:=st2 Q15_E Tryz.f190 (fun R kk x0 x1 K=>zuu x0 x1 (zut R kk kk (z18v R kk K))) o22 (ek _ _ _ _) Tryz.func190 (by kernel_rfl) rfl (fun _ _ _ _ _ _ h=>h _ _) (fun _ _ _ _ _=>by kernel_rfl) fun R kk e x0 x1 K=>by
 simp only[Q15,zuu,z18w,z18x,z1wd (hF:=e),z1r1,z1r2,nn_,←e]
def z219:Env:=e0 [(.int .i64)]
def Tb24:Funs:=Tb23.add 227 [(.int .i64)] (pu1 (.int .i64) Q241 (fun _ r K=>K [tB r] none))
theorem o24:Okt Tryz.prog Tb24:=st1 z219 Tryz.f227 (fun R kk x0 K=>z13o x0 (fun a0=>K [tB a0] none)) o23 (ek _ _ _ _) Tryz.func227 (by kernel_rfl) rfl (fun _ _ _ _ _ _ h=>h _ _) (fun _ _ _ _=>by kernel_rfl) fun R kk e x0 K=>by
 simp only[Q241,z13o,nn_]
def z218:Env:=e0 [(.int .i64)]
def Tb25:Funs:=Tb24.add 228 [(.int .i64)] (pu1 (.int .i64) Q240 (fun _ r K=>K [tB r] none))
theorem o25:Okt Tryz.prog Tb25:=st1 z218 Tryz.f228 (fun R kk x0 K=>zpp x0 (fun a0=>K [tB a0] none)) o24 (ek _ _ _ _) Tryz.func228 (by kernel_rfl) rfl (fun _ _ _ _ _ _ h=>h _ _) (fun _ _ _ _=>by kernel_rfl) fun R kk e x0 K=>by
 simp only[Q240,zpp,nn_]
def z217:Env:=e0 [.str,(.int .i64)]
def Tb26:Funs:=Tb25.add 213 [.str,(.int .i64)] (pu2 .str (.int .i64) Q239 (fun _ r K=>K [tI r.1,tI r.2.1,tI r.2.2] none))
theorem o26:Okt Tryz.prog Tb26:=st2 z217 Tryz.f213 (fun R kk x0 x1 K=>zpo x0 x1 (fun a0 a1 a2=>K [tI a0,tI a1,tI a2] none)) o25 (ek _ _ _ _) Tryz.func213 (by kernel_rfl) rfl (fun _ _ _ _ _ _ h=>h _ _) (fun _ _ _ _ _=>by kernel_rfl) fun R kk e x0 x1 K=>by
 simp only[Q239,zpo,nn_]
def Q4_E:Env:=e0 [(.int .i64)]
def Tb27:Funs:=Tb26.add 229 [(.int .i64)] (pu1 (.int .i64) Q4 (fun _ r K=>K [tI r] none))
theorem o27:Okt Tryz.prog Tb27:=st1 Q4_E Tryz.f229 (fun R kk x0 K=>Q4_s0 x0 (fun a0=>K [tI a0] none)) o26 (ek _ _ _ _) Tryz.func229 (by kernel_rfl) rfl (fun _ _ _ _ _ _ h=>h _ _) (fun _ _ _ _=>by kernel_rfl) fun R kk e x0 K=>by
 simp only[Q4,Q4_s0,nn_]
def Q3_E:Env:=tab.env (fun i=>bif Nat.beq i 14 then [0,1,7,8,44,45] else []) (fun i=>bif Nat.beq i 14 then [1,7,8] else []) [] [.str,(.int .i64)]
def Q3_L0(a:ByteArray)(b c d e f:Int):Option R:=loopR (ev Q3_E (Tb27 R) kk (sub [1,1,1,1,1,1,1,0,1,0,0] (cd Tryz.f214))) [0,1,7,8,44,45] [1,7,8] k ⟨[tS a]::[tI b]::uS 5 ([tI c]::[tI d]::uS 35 ([tI e]::[tI f]::uS 21 [])),nS 68 []⟩ J
def z14i(a b c:Int):State:=⟨uS 1 ([tI a]::uS 5 ([tI b]::[tI c]::uS 58 [])),nS 68 []⟩
def Q3_K0:KX R:=(zk 0 (kSeq Q3_E (Tb27 R) kk (sub [1,1,1,1,1,1,1,1] (cd Tryz.f214)) (kFin Q3_E Tryz.f214.results.toList none K)))
theorem Q3_d0(a:ByteArray)(b c d e f:Int):Q3_L0 R kk (k+1) J a b c d e f=
 Q3_s1 a b c d e f (Q3_L0 R kk k J) (fun a0 a1 a2=>J (.exit 0) (z14i a0 a1 a2)):=by kernel_rfl
theorem z1xi(a b c:Int):Q3_K0 R kk K (.exit 0) (z14i a b c)=
 Q3_s2 a b c (fun a0 a1 a2=>K [tI a0,tI a1,tI a2] none):=by kernel_rfl
theorem z21h{kk:Nat}(hF:kk=FUEL)(b_0:ByteArray)(at_1 t7 t8 t44 t45:Int):Q3_L0 R kk k J b_0 at_1 t7 t8 t44 t45=(Q3_l0 k b_0 at_1 t7 t8 t44 t45).bind fun e=>J (.exit 0) (z14i e.1 e.2.1 e.2.2):=by
 induction k generalizing b_0 at_1 t7 t8 t44 t45 with
 |zero=>rfl
 |succ k ih=>
  rw[Q3_d0]
  simp only[Q3_l0,Q3_s1,ih,nn_]
def Tb28:Funs:=Tb27.add 214 [.str,(.int .i64)] (pu2 .str (.int .i64) Q3 (fun _ r K=>K [tI r.1,tI r.2.1,tI r.2.2] none))
theorem o28:Okt Tryz.prog Tb28:=st2 Q3_E Tryz.f214 (fun R kk x0 x1 K=>Q3_s0 x0 x1 (fun a0 a1 a2=>K [tI a0,tI a1,tI a2] none) (fun a0 a1 a2 a3 a4 a5=>Q3_L0 R kk kk (Q3_K0 R kk K) a0 a1 a2 a3 a4 a5)) o27 (ek _ _ _ _) Tryz.func214 (by kernel_rfl) rfl (fun _ _ _ _ _ _ h=>h _ _) (fun _ _ _ _ _=>by kernel_rfl) fun R kk e x0 x1 K=>by
 simp only[Q3,z1gj,Q3_s2,z21h (hF:=e),z1xi,nn_,←e]
def zvm:Env:=tab.env (fun i=>bif Nat.beq i 4 then [0,5,6,7,13] else []) (fun i=>bif Nat.beq i 4 then [2,3,4,5] else []) [] [.str]
def zpq(a:ByteArray)(b:Zt13)(c:Int)(d:Zt7):Option R:=loopR (ev zvm (Tb28 R) kk (sub [1,1,1,0,1,0,0] (cd Tryz.f191))) [0,5,6,7,13] [2,3,4,5] k ⟨[tS a]::uS 4 ([.dat (.sl 245 (.pair (.int .i64) (.pair .str .unit))) b [[]]]::[.ptr 14 (.spc .mp (.int .i64) .bool) []]::[tI c]::uS 5 ([.ptr 14 (.spc .mp (.int .i64) .bool) []]::uS 58 [])),nS 14 ((some ⟨(.spc .mp (.int .i64) .bool),d,[]⟩)::nS 58 [])⟩ J
def zhu(a:Zt13)(b c:Int)(d:Zt13):State:=⟨uS 2 ([.dat (.sl 245 (.pair (.int .i64) (.pair .str .unit))) a [[]]]::[tI b]::[tI c]::[.dat (.sl 245 (.pair (.int .i64) (.pair .str .unit))) d [[]]]::uS 66 []),nS 73 []⟩
def zhv(a:Zt13):State:=⟨uS 5 ([.dat (.sl 245 (.pair (.int .i64) (.pair .str .unit))) a [[]]]::uS 66 []),nS 73 []⟩
def z13p:KX R:=(zk 0 (kSeq zvm (Tb28 R) kk (sub [1,1,1,1] (cd Tryz.f191)) (kFin zvm Tryz.f191.results.toList none K)))
theorem z1x5(a:ByteArray)(b:Zt13)(c:Int)(d:Zt7):zpq R kk (k+1) J a b c d=
 zps a b c d (fun a0 a1 a2 a3=>J .ret (zhu a0 a1 a2 a3)) (zpq R kk k J) (fun a0=>J (.exit 0) (zhv a0)):=by kernel_rfl
theorem z1kz(a:Zt13)(b c:Int)(d:Zt13):z13p R kk K .ret (zhu a b c d)=
 z13q a b c d (fun a0 a1 a2=>K [.dat (.sl 245 (.pair (.int .i64) (.pair .str .unit))) a0 [[]],tI a1,tI a2] none):=by kernel_rfl
theorem z1l0(a:Zt13):z13p R kk K (.exit 0) (zhv a)=
 z13r a (fun a0 a1 a2=>K [.dat (.sl 245 (.pair (.int .i64) (.pair .str .unit))) a0 [],tI a1,tI a2] none):=by kernel_rfl
theorem z1rv{kk:Nat}(hF:kk=FUEL)(b_0:ByteArray)(t5:Zt13)(t7:Int)(bt6:Zt7):zpq R kk k J b_0 t5 t7 bt6=(z9a k b_0 t5 t7 bt6).bind fun e=>(Sum.elim (fun(we:Zt23)=>J .ret (zhu we.1 we.2.1 we.2.2.1 we.2.2.2)) (fun(we:Zt13)=>J (.exit 0) (zhv we)) e):=by
 induction k generalizing b_0 t5 t7 bt6 with
 |zero=>rfl
 |succ k ih=>
  rw[z1x5]
  simp only[z9a,zps,ih,nn_]
def Tb29:Funs:=Tb28.add 191 [.str] (pu1 .str Q242 (fun _ r K=>(Sum.elim (fun(wr:Zt18)=>K [.dat (.sl 245 (.pair (.int .i64) (.pair .str .unit))) wr.1 [[]],tI wr.2.1,tI wr.2.2] none) (fun(wr:Zt18)=>K [.dat (.sl 245 (.pair (.int .i64) (.pair .str .unit))) wr.1 [],tI wr.2.1,tI wr.2.2] none) r)))
theorem o29:Okt Tryz.prog Tb29:=st1 zvm Tryz.f191 (fun R kk x0 K=>zpr x0 (zpq R kk kk (z13p R kk K))) o28 (ek _ _ _ _) Tryz.func191 (by kernel_rfl) rfl (fun _ _ _ _ _ _ h=>z1fz (fun _=>h _ _) (fun _=>h _ _)) (fun _ _ _ _=>by kernel_rfl) fun R kk e x0 K=>by
 simp only[Q242,zpr,z13q,z13r,z1rv (hF:=e),z1kz,z1l0,nn_,←e]
def z211:Env:=e0 [y9,.str]
def Tb30:Funs:=Tb29.add 135 [y9,.str] (pu2 y9 .str Q229 (fun _ r K=>K [tI r] none))
theorem o30:Okt Tryz.prog Tb30:=st2 z211 Tryz.f135 (fun R kk x0 x1 K=>zp9 x0 x1 (fun a0=>K [tI a0] none)) o29 (ek _ _ _ _) Tryz.func135 (by kernel_rfl) rfl (fun _ _ _ _ _ _ h=>h _ _) (fun _ _ _ _ _=>by kernel_rfl) fun R kk e x0 x1 K=>by
 simp only[Q229,zp9,nn_]
def z20o:Env:=e0 [y18,(.int .i64),y9]
def Tb31:Funs:=Tb30.add 75 [y18,(.int .i64),y9] (pu3 y18 (.int .i64) y9 Q201 (fun _ r K=>K [tI r] none))
theorem o31:Okt Tryz.prog Tb31:=st3 z20o Tryz.f75 (fun R kk x0 x1 x2 K=>zoi x0 x1 x2 (fun a0=>K [tI a0] none)) o30 (ek _ _ _ _) Tryz.func75 (by kernel_rfl) rfl (fun _ _ _ _ _ _ h=>h _ _) (fun _ _ _ _ _ _=>by kernel_rfl) fun R kk e x0 x1 x2 K=>by
 simp only[Q201,zoi,nn_]
def z9p:Env:=tab.env (fun i=>bif Nat.beq i 8 then [1,7,33,34] else bif Nat.beq i 16 then [1,7,11,46,47,48] else []) (fun i=>bif Nat.beq i 8 then [1,2,3,4,7] else bif Nat.beq i 16 then [1,2,3,4,11] else []) [] [y18]
def zo9(a b:Int)(c:Zt28)(d:Zt15):Option R:=loopR (ev z9p (Tb31 R) kk (sub [1,1,1,1,0,1,0,0] (cd Tryz.f30))) [1,7,33,34] [1,2,3,4,7] k ⟨uS 1 ([.ptr 2 y18 []]::uS 5 ([.ptr 8 y9 []]::uS 25 ([tI a]::[tI b]::uS 38 []))),nS 2 ((some ⟨y18,c,[]⟩)::nS 5 ((some ⟨y9,d,[]⟩)::nS 65 []))⟩ J
def zh2(a b c:Int)(d:Zt28)(e:Zt15):State:=⟨uS 1 ([.ptr 2 y18 []]::[tI a]::[tI b]::[tI c]::uS 2 ([.ptr 8 y9 []]::uS 65 [])),nS 2 ((some ⟨y18,d,[]⟩)::nS 5 ((some ⟨y9,e,[]⟩)::nS 65 []))⟩
def zh3(a:Zt28)(b:Zt15):State:=⟨uS 1 ([.ptr 2 y18 []]::uS 5 ([.ptr 8 y9 []]::uS 65 [])),nS 2 ((some ⟨y18,a,[]⟩)::nS 5 ((some ⟨y9,b,[]⟩)::nS 65 []))⟩
def z12m:KX R:=(zk 0 (kSeq z9p (Tb31 R) kk (sub [1,1,1,1,1] (cd Tryz.f30)) (kFin z9p Tryz.f30.results.toList none K)))
def zoa(a:Bool)(b:Zt13)(c d:Int)(e:Zt28)(f:Zt15):Option R:=loopR (ev z9p (Tb31 R) kk (sub [1,1,1,1,1,1,0,1,0,0] (cd Tryz.f30))) [1,7,11,46,47,48] [1,2,3,4,11] k ⟨uS 1 ([.ptr 2 y18 []]::uS 5 ([.ptr 8 y9 []]::uS 3 ([tB a]::uS 34 ([.dat (.sl 96 (.pair (.int .i64) (.pair .str .unit))) b []]::[tI c]::[tI d]::uS 24 [])))),nS 2 ((some ⟨y18,e,[]⟩)::nS 5 ((some ⟨y9,f,[]⟩)::nS 65 []))⟩ J
def zh4(a b c:Int)(d:Bool)(e:Zt28):State:=⟨uS 1 ([.ptr 2 y18 []]::[tI a]::[tI b]::[tI c]::uS 6 ([tB d]::uS 61 [])),nS 2 ((some ⟨y18,e,[]⟩)::nS 71 [])⟩
def zh5(a:Bool)(b:Zt28):State:=⟨uS 1 ([.ptr 2 y18 []]::uS 9 ([tB a]::uS 61 [])),nS 2 ((some ⟨y18,b,[]⟩)::nS 71 [])⟩
def z12n:KX R:=(zk 2 (kSeq z9p (Tb31 R) kk (sub [1,1,1,1,1,1,1] (cd Tryz.f30)) (kFin z9p Tryz.f30.results.toList none K)))
theorem z1wo(a b:Int)(c:Zt28)(d:Zt15):zo9 R kk (k+1) J a b c d=
 zcj a b c d (fun a0 a1 a2 a3 a4=>J .ret (zh2 a0 a1 a2 a3 a4)) (zo9 R kk k J) (fun a0 a1=>J (.exit 0) (zh3 a0 a1)):=by kernel_rfl
theorem z1k9(a b c:Int)(d:Zt28)(e:Zt15):z12m R kk K .ret (zh2 a b c d e)=
 z12o a b c d e (fun a0 a1 a2=>K [tI a0,tI a1,tI a2] none):=by kernel_rfl
theorem z1ka(a:Zt28)(b:Zt15):z12m R kk K (.exit 0) (zh3 a b)=
 zoc a b (zoa R kk kk (z12n R kk K)):=by kernel_rfl
theorem z1wp(a:Bool)(b:Zt13)(c d:Int)(e:Zt28)(f:Zt15):zoa R kk (k+1) J a b c d e f=
 zck a b c d e f (fun a0 a1 a2 a3 a4=>J .ret (zh4 a0 a1 a2 a3 a4)) (zoa R kk k J) (fun a0 a1=>J (.exit 2) (zh5 a0 a1)):=by kernel_rfl
theorem z1kb(a b c:Int)(d:Bool)(e:Zt28):z12n R kk K .ret (zh4 a b c d e)=
 z12p a b c d e (fun a0 a1 a2=>K [tI a0,tI a1,tI a2] none):=by kernel_rfl
theorem z1kc(a:Bool)(b:Zt28):z12n R kk K (.exit 2) (zh5 a b)=
 zod a b (fun a0 a1 a2=>K [tI a0,tI a1,tI a2] none):=by kernel_rfl
theorem z1rd{kk:Nat}(hF:kk=FUEL)(t33 t34:Int)(bt1:Zt28)(bt7:Zt15):zo9 R kk k J t33 t34 bt1 bt7=(z7e k t33 t34 bt1 bt7).bind fun e=>(Sum.elim (fun(we:(Int×Int×Int×Zt28×Zt15))=>J .ret (zh2 we.1 we.2.1 we.2.2.1 we.2.2.2.1 we.2.2.2.2)) (fun(we:(Zt28×Zt15))=>J (.exit 0) (zh3 we.1 we.2)) e):=by
 induction k generalizing t33 t34 bt1 bt7 with
 |zero=>rfl
 |succ k ih=>
  rw[z1wo]
  simp only[z7e,zcj,ih,nn_]
theorem z1re{kk:Nat}(hF:kk=FUEL)(t11:Bool)(t46:Zt13)(t47 t48:Int)(bt1:Zt28)(bt7:Zt15):zoa R kk k J t11 t46 t47 t48 bt1 bt7=(z7f k t11 t46 t47 t48 bt1 bt7).bind fun e=>(Sum.elim (fun(we:(Int×Int×Int×Bool×Zt28))=>J .ret (zh4 we.1 we.2.1 we.2.2.1 we.2.2.2.1 we.2.2.2.2)) (fun(we:(Bool×Zt28))=>J (.exit 2) (zh5 we.1 we.2)) e):=by
 induction k generalizing t11 t46 t47 t48 bt1 bt7 with
 |zero=>rfl
 |succ k ih=>
  rw[z1wp]
  simp only[z7f,zck,ih,nn_]
def Tb32:Funs:=Tb31.add 30 [y18] (pu1 y18 Q199 (fun _ r K=>K [tI r.1,tI r.2.1,tI r.2.2] none))
theorem o32:Okt Tryz.prog Tb32:=st1 z9p Tryz.f30 (fun R kk x0 K=>zob x0 (fun a0 a1 a2=>K [tI a0,tI a1,tI a2] none) (zo9 R kk kk (z12m R kk K))) o31 (ek _ _ _ _) Tryz.func30 (by kernel_rfl) rfl (fun _ _ _ _ _ _ h=>h _ _) (fun _ _ _ _=>by kernel_rfl) fun R kk e x0 K=>by
 simp only[Q199,zob,z12o,zoc,z12p,zod,z1rd (hF:=e),z1re (hF:=e),z1k9,z1ka,z1kb,z1kc,nn_,←e]
def Q28_E:Env:=tab.env (fun i=>bif Nat.beq i 2 then [6] else []) (fun i=>bif Nat.beq i 2 then [2] else []) [] [.str]
def zvq(a:Zt0):Option R:=loopR (ev Q28_E (Tb32 R) kk (sub [1,0,1,0,0] (cd Tryz.f199))) [6] [2] k ⟨uS 6 ([.ptr 7 (.spc .iter .unit .unit) []]::uS 9 []),nS 7 ((some ⟨(.spc .iter .unit .unit),a,[]⟩)::nS 9 [])⟩ J
def zs7(a:Bool):State:=⟨uS 2 ([tB a]::uS 13 []),nS 17 []⟩
def zs8:State:=⟨uS 16 [],nS 17 []⟩
def z198:KX R:=(zk 0 (kSeq Q28_E (Tb32 R) kk (sub [1,1] (cd Tryz.f199)) (kFin Q28_E Tryz.f199.results.toList none K)))
theorem z21d(a:Zt0):zvq R kk (k+1) J a=
 zvs a (fun a0=>J .ret (zs7 a0)) (zvq R kk k J) (J (.exit 0) (zs8)):=by kernel_rfl
theorem z1s4(a:Bool):z198 R kk K .ret (zs7 a)=
 z199 a (fun a0=>K [tB a0] none):=by kernel_rfl
theorem z1s5:z198 R kk K (.exit 0) (zs8)=
 z19a (fun a0=>K [tB a0] none):=by kernel_rfl
theorem z1xe{kk:Nat}(hF:kk=FUEL)(bt6:Zt0):zvq R kk k J bt6=(zcz k bt6).bind fun e=>(Sum.elim (fun(we:Bool)=>J .ret (zs7 we)) (fun(we:Unit)=>J (.exit 0) (zs8)) e):=by
 induction k generalizing bt6 with
 |zero=>rfl
 |succ k ih=>
  rw[z21d]
  simp only[zcz,zvs,ih,nn_]
def Tb33:Funs:=Tb32.add 199 [.str] (pu1 .str Q28 (fun _ r K=>K [tB r] none))
theorem o33:Okt Tryz.prog Tb33:=st1 Q28_E Tryz.f199 (fun R kk x0 K=>zvr x0 (zvq R kk kk (z198 R kk K))) o32 (ek _ _ _ _) Tryz.func199 (by kernel_rfl) rfl (fun _ _ _ _ _ _ h=>h _ _) (fun _ _ _ _=>by kernel_rfl) fun R kk e x0 K=>by
 simp only[Q28,zvr,z199,z19a,z1xe (hF:=e),z1s4,z1s5,nn_,←e]
def z20h:Env:=e0 [.str]
def Tb34:Funs:=Tb33.add 153 [.str] (pu1 .str Q191 (fun _ r K=>K [tB r] none))
theorem o34:Okt Tryz.prog Tb34:=st1 z20h Tryz.f153 (fun R kk x0 K=>zo0 x0 (fun a0=>K [tB a0] none)) o33 (ek _ _ _ _) Tryz.func153 (by kernel_rfl) rfl (fun _ _ _ _ _ _ h=>h _ _) (fun _ _ _ _=>by kernel_rfl) fun R kk e x0 K=>by
 simp only[Q191,zo0,nn_]
def z20i:Env:=e0 [.str]
def Tb35:Funs:=Tb34.add 136 [.str] (pu1 .str Q192 (fun _ r K=>K [tI r.1,tB r.2] none))
theorem o35:Okt Tryz.prog Tb35:=st1 z20i Tryz.f136 (fun R kk x0 K=>zo1 x0 (fun a0 a1=>K [tI a0,tB a1] none)) o34 (ek _ _ _ _) Tryz.func136 (by kernel_rfl) rfl (fun _ _ _ _ _ _ h=>h _ _) (fun _ _ _ _=>by kernel_rfl) fun R kk e x0 K=>by
 simp only[Q192,zo1,nn_]
def z20f:Env:=e0 [.str]
def Tb36:Funs:=Tb35.add 137 [.str] (pu1 .str Q189 (fun _ r K=>K [tB r] none))
theorem o36:Okt Tryz.prog Tb36:=st1 z20f Tryz.f137 (fun R kk x0 K=>zny x0 (fun a0=>K [tB a0] none)) o35 (ek _ _ _ _) Tryz.func137 (by kernel_rfl) rfl (fun _ _ _ _ _ _ h=>h _ _) (fun _ _ _ _=>by kernel_rfl) fun R kk e x0 K=>by
 simp only[Q189,zny,nn_]
def z21c:Env:=e0 [(.pair .str (.pair .str .unit)),y15,y15]
def Tb37:Funs:=Tb36.add 76 [(.pair .str (.pair .str .unit)),y15,y15] (pu3 (.pair .str (.pair .str .unit)) y15 y15 Q255 (fun _ r K=>K [tB r] none))
theorem o37:Okt Tryz.prog Tb37:=st3 z21c Tryz.f76 (fun R kk x0 x1 x2 K=>zqc x0 x1 x2 (fun a0=>K [tB a0] none)) o36 (ek _ _ _ _) Tryz.func76 (by kernel_rfl) rfl (fun _ _ _ _ _ _ h=>h _ _) (fun _ _ _ _ _ _=>by kernel_rfl) fun R kk e x0 x1 x2 K=>by
 simp only[Q255,zqc,nn_]
def z20w:Env:=tab.env (fun _=>[]) (fun _=>[]) [6,7] [y12,y15,y15]
def Tb38:Funs:=Tb37.add 138 [y12,y15,y15] (pu3 y12 y15 y15 Q218 (fun _ r K=>K [.dat y9 r.1 [],.dat y9 r.2.1 [],tI r.2.2] none))
theorem o38:Okt Tryz.prog Tb38:=st3 z20w Tryz.f138 (fun R kk x0 x1 x2 K=>zor x0 x1 x2 (fun a0 a1 a2=>K [.dat y9 a0 [],.dat y9 a1 [],tI a2] none)) o37 (ek _ _ _ _) Tryz.func138 (by kernel_rfl) rfl (fun _ _ _ _ _ _ h=>h _ _) (fun _ _ _ _ _ _=>by kernel_rfl) fun R kk e x0 x1 x2 K=>by
 simp only[Q218,zor,nn_]
def Q17_E:Env:=e0 [(.int .i64),(.int .i64)]
def Tb39:Funs:=Tb38.add 210 [(.int .i64),(.int .i64)] (pu2 (.int .i64) (.int .i64) Q17 (fun _ r K=>K [tB r] none))
theorem o39:Okt Tryz.prog Tb39:=st2 Q17_E Tryz.f210 (fun R kk x0 x1 K=>zv0 x0 x1 (fun a0=>K [tB a0] none)) o38 (ek _ _ _ _) Tryz.func210 (by kernel_rfl) rfl (fun _ _ _ _ _ _ h=>h _ _) (fun _ _ _ _ _=>by kernel_rfl) fun R kk e x0 x1 K=>by
 simp only[Q17,zv0,nn_]
def z214:Env:=e0 [(.int .i64),(.int .i64)]
def Tb40:Funs:=Tb39.add 185 [(.int .i64),(.int .i64)] (pu2 (.int .i64) (.int .i64) Q231 (fun _ r K=>K [tB r] none))
theorem o40:Okt Tryz.prog Tb40:=st2 z214 Tryz.f185 (fun R kk x0 x1 K=>zpb x0 x1 (fun a0=>K [tB a0] none)) o39 (ek _ _ _ _) Tryz.func185 (by kernel_rfl) rfl (fun _ _ _ _ _ _ h=>h _ _) (fun _ _ _ _ _=>by kernel_rfl) fun R kk e x0 x1 K=>by
 simp only[Q231,zpb,nn_]
def z213:Env:=e0 [y9,y9]
def Tb41:Funs:=Tb40.add 127 [y9,y9] (pu2 y9 y9 Q230 (fun _ r K=>K [tB r] none))
theorem o41:Okt Tryz.prog Tb41:=st2 z213 Tryz.f127 (fun R kk x0 x1 K=>zpa x0 x1 (fun a0=>K [tB a0] none)) o40 (ek _ _ _ _) Tryz.func127 (by kernel_rfl) rfl (fun _ _ _ _ _ _ h=>h _ _) (fun _ _ _ _ _=>by kernel_rfl) fun R kk e x0 x1 K=>by
 simp only[Q230,zpa,nn_]
def z20x:Env:=e0 [y9]
def Tb42:Funs:=Tb41.add 139 [y9] (pu1 y9 Q219 (fun _ r K=>K [tB r] none))
theorem o42:Okt Tryz.prog Tb42:=st1 z20x Tryz.f139 (fun R kk x0 K=>zos x0 (fun a0=>K [tB a0] none)) o41 (ek _ _ _ _) Tryz.func139 (by kernel_rfl) rfl (fun _ _ _ _ _ _ h=>h _ _) (fun _ _ _ _=>by kernel_rfl) fun R kk e x0 K=>by
 simp only[Q219,zos,nn_]
def Q22_E:Env:=tab.env (fun i=>bif Nat.beq i 5 then [4,10,11,12,13] else []) (fun i=>bif Nat.beq i 5 then [2,3] else []) [] [(.sl 116 (.pair .str (.pair .str .unit)))]
def zvh(a:Zt16)(b c:Int)(d:Zt10):Option R:=loopR (ev Q22_E (Tb42 R) kk (sub [1,1,1,0,1,0,0] (cd Tryz.f126))) [4,10,11,12,13] [2,3] k ⟨uS 4 ([.ptr 11 (.spc .mp .str .bool) []]::uS 5 ([.ptr 11 (.spc .mp .str .bool) []]::[.dat (.sl 116 (.pair .str (.pair .str .unit))) a []]::[tI b]::[tI c]::uS 13 [])),nS 11 ((some ⟨(.spc .mp .str .bool),d,[]⟩)::nS 16 [])⟩ J
def zs5(a b:Int):State:=⟨uS 2 ([tI a]::[tI b]::uS 23 []),nS 28 []⟩
def zs6:State:=⟨uS 27 [],nS 28 []⟩
def z194:KX R:=(zk 0 (kSeq Q22_E (Tb42 R) kk (sub [1,1,1,1] (cd Tryz.f126)) (kFin Q22_E Tryz.f126.results.toList none K)))
theorem z212(a:Zt16)(b c:Int)(d:Zt10):zvh R kk (k+1) J a b c d=
 z195 a b c d (fun a0 a1=>J .ret (zs5 a0 a1)) (zvh R kk k J) (J (.exit 0) (zs6)):=by kernel_rfl
theorem z1rq(a b:Int):z194 R kk K .ret (zs5 a b)=
 z196 a b (fun a0 a1=>K [tI a0,tI a1] none):=by kernel_rfl
theorem z1rr:z194 R kk K (.exit 0) (zs6)=
 z197 (fun a0 a1=>K [tI a0,tI a1] none):=by kernel_rfl
theorem z1x1{kk:Nat}(hF:kk=FUEL)(t11:Zt16)(t12 t13:Int)(bt4:Zt10):zvh R kk k J t11 t12 t13 bt4=(zhp k t11 t12 t13 bt4).bind fun e=>(Sum.elim (fun(we:(Int×Int))=>J .ret (zs5 we.1 we.2)) (fun(we:Unit)=>J (.exit 0) (zs6)) e):=by
 induction k generalizing t11 t12 t13 bt4 with
 |zero=>rfl
 |succ k ih=>
  rw[z212]
  simp only[zhp,z195,ih,nn_]
def Tb43:Funs:=Tb42.add 126 [(.sl 116 (.pair .str (.pair .str .unit)))] (pu1 (.sl 116 (.pair .str (.pair .str .unit))) Q22 (fun _ r K=>K [tI r.1,tI r.2] none))
theorem o43:Okt Tryz.prog Tb43:=st1 Q22_E Tryz.f126 (fun R kk x0 K=>zvi x0 (fun a0 a1=>K [tI a0,tI a1] none) (zvh R kk kk (z194 R kk K))) o42 (ek _ _ _ _) Tryz.func126 (by kernel_rfl) rfl (fun _ _ _ _ _ _ h=>h _ _) (fun _ _ _ _=>by kernel_rfl) fun R kk e x0 K=>by
 simp only[Q22,zvi,z196,z197,z1x1 (hF:=e),z1rq,z1rr,nn_,←e]
def zvb:Env:=tab.env (fun i=>bif Nat.beq i 5 then [4,5,25,26,27] else []) (fun i=>bif Nat.beq i 5 then [6] else []) [] [(.sl 116 (.pair .str (.pair .str .unit))),y9,y9]
def zot(a:Zt16)(b c:Int)(d e:Zt15):Option R:=loopR (ev zvb (Tb43 R) kk (sub [1,1,0,1,0,0] (cd Tryz.f140))) [4,5,25,26,27] [6] k ⟨uS 4 ([.ptr 5 y9 []]::[.ptr 6 y9 []]::uS 19 ([.dat (.sl 116 (.pair .str (.pair .str .unit))) a []]::[tI b]::[tI c]::uS 18 [])),nS 5 ((some ⟨y9,d,[]⟩)::(some ⟨y9,e,[]⟩)::nS 40 [])⟩ J
def zhd(a:Int):State:=⟨uS 6 ([tI a]::uS 39 []),nS 47 []⟩
def zhe:State:=⟨uS 46 [],nS 47 []⟩
def z130:KX R:=(zk 0 (kSeq zvb (Tb43 R) kk (sub [1,1,1] (cd Tryz.f140)) (kFin zvb Tryz.f140.results.toList none K)))
theorem z1wv(a:Zt16)(b c:Int)(d e:Zt15):zot R kk (k+1) J a b c d e=
 z131 a b c d e (fun a0=>J .ret (zhd a0)) (zot R kk k J) (J (.exit 0) (zhe)):=by kernel_rfl
theorem z1kj(a:Int):z130 R kk K .ret (zhd a)=
 z132 a (fun a0=>K [tI a0] none):=by kernel_rfl
theorem z1kk:z130 R kk K (.exit 0) (zhe)=
 z133 (fun a0=>K [tI a0] none):=by kernel_rfl
theorem z1rk{kk:Nat}(hF:kk=FUEL)(t25:Zt16)(t26 t27:Int)(bt4 bt5:Zt15):zot R kk k J t25 t26 t27 bt4 bt5=(zcm k t25 t26 t27 bt4 bt5).bind fun e=>(Sum.elim (fun(we:Int)=>J .ret (zhd we)) (fun(we:Unit)=>J (.exit 0) (zhe)) e):=by
 induction k generalizing t25 t26 t27 bt4 bt5 with
 |zero=>rfl
 |succ k ih=>
  rw[z1wv]
  simp only[zcm,z131,ih,nn_]
def Tb44:Funs:=Tb43.add 140 [(.sl 116 (.pair .str (.pair .str .unit))),y9,y9] (pu3 (.sl 116 (.pair .str (.pair .str .unit))) y9 y9 Q220 (fun _ r K=>K [tI r] none))
theorem o44:Okt Tryz.prog Tb44:=st3 zvb Tryz.f140 (fun R kk x0 x1 x2 K=>zou x0 x1 x2 (fun a0=>K [tI a0] none) (zot R kk kk (z130 R kk K))) o43 (ek _ _ _ _) Tryz.func140 (by kernel_rfl) rfl (fun _ _ _ _ _ _ h=>h _ _) (fun _ _ _ _ _ _=>by kernel_rfl) fun R kk e x0 x1 x2 K=>by
 simp only[Q220,zou,z132,z133,z1rk (hF:=e),z1kj,z1kk,nn_,←e]
def z20v:Env:=e0 [y12,y15,y15]
def Tb45:Funs:=Tb44.add 77 [y12,y15,y15] (pu3 y12 y15 y15 Q217 (fun _ r K=>K [tI r] none))
theorem o45:Okt Tryz.prog Tb45:=st3 z20v Tryz.f77 (fun R kk x0 x1 x2 K=>zoq x0 x1 x2 (fun a0=>K [tI a0] none)) o44 (ek _ _ _ _) Tryz.func77 (by kernel_rfl) rfl (fun _ _ _ _ _ _ h=>h _ _) (fun _ _ _ _ _ _=>by kernel_rfl) fun R kk e x0 x1 x2 K=>by
 simp only[Q217,zoq,nn_]
def Q42_E:Env:=tab.env (fun _=>[]) (fun _=>[]) [2] [(.int .i64)]
def Tb46:Funs:=Tb45.add 192 [(.int .i64)] (pu1 (.int .i64) Q42 (fun _ r K=>K [.dat (.pair (.int .u64) (.pair (.int .u64) .unit)) r []] none))
theorem o46:Okt Tryz.prog Tb46:=st1 Q42_E Tryz.f192 (fun R kk x0 K=>zw7 x0 (fun a0=>K [.dat (.pair (.int .u64) (.pair (.int .u64) .unit)) a0 []] none)) o45 (ek _ _ _ _) Tryz.func192 (by kernel_rfl) rfl (fun _ _ _ _ _ _ h=>h _ _) (fun _ _ _ _=>by kernel_rfl) fun R kk e x0 K=>by
 simp only[Q42,zw7,nn_]
def Q35_E:Env:=tab.env (fun _=>[]) (fun _=>[]) [4] [(.pair (.int .u64) (.pair (.int .u64) .unit)),(.pair (.int .u64) (.pair (.int .u64) .unit))]
def Tb47:Funs:=Tb46.add 80 [(.pair (.int .u64) (.pair (.int .u64) .unit)),(.pair (.int .u64) (.pair (.int .u64) .unit))] (pu2 (.pair (.int .u64) (.pair (.int .u64) .unit)) (.pair (.int .u64) (.pair (.int .u64) .unit)) Q35 (fun _ r K=>K [.dat (.pair (.int .u64) (.pair (.int .u64) .unit)) r []] none))
theorem o47:Okt Tryz.prog Tb47:=st2 Q35_E Tryz.f80 (fun R kk x0 x1 K=>zw3 x0 x1 (fun a0=>K [.dat (.pair (.int .u64) (.pair (.int .u64) .unit)) a0 []] none)) o46 (ek _ _ _ _) Tryz.func80 (by kernel_rfl) rfl (fun _ _ _ _ _ _ h=>h _ _) (fun _ _ _ _ _=>by kernel_rfl) fun R kk e x0 x1 K=>by
 simp only[Q35,zw3,nn_]
def Q40_E:Env:=tab.env (fun _=>[]) (fun _=>[]) [4] [(.pair (.int .u64) (.pair (.int .u64) .unit)),(.int .i64)]
def Tb48:Funs:=Tb47.add 141 [(.pair (.int .u64) (.pair (.int .u64) .unit)),(.int .i64)] (pu2 (.pair (.int .u64) (.pair (.int .u64) .unit)) (.int .i64) Q40 (fun _ r K=>K [.dat (.pair (.int .u64) (.pair (.int .u64) .unit)) r []] none))
theorem o48:Okt Tryz.prog Tb48:=st2 Q40_E Tryz.f141 (fun R kk x0 x1 K=>zw6 x0 x1 (fun a0=>K [.dat (.pair (.int .u64) (.pair (.int .u64) .unit)) a0 []] none)) o47 (ek _ _ _ _) Tryz.func141 (by kernel_rfl) rfl (fun _ _ _ _ _ _ h=>h _ _) (fun _ _ _ _ _=>by kernel_rfl) fun R kk e x0 x1 K=>by
 simp only[Q40,zw6,nn_]
def Q33_E:Env:=tab.env (fun i=>bif Nat.beq i 3 then [2,3,6,7,8] else []) (fun i=>bif Nat.beq i 3 then [2,3] else []) [2] [(.sl 3 (.int .i64))]
def zw0(a:(List Int))(b c:Int)(d e:Zt6):Option R:=loopR (ev Q33_E (Tb48 R) kk (sub [1,1,0,1,0,0] (cd Tryz.f78))) [2,3,6,7,8] [2,3] k ⟨uS 2 ([.ptr 3 (.pair (.int .u64) (.pair (.int .u64) .unit)) []]::[.ptr 4 (.pair (.int .u64) (.pair (.int .u64) .unit)) []]::uS 2 ([.dat (.sl 3 (.int .i64)) a []]::[tI b]::[tI c]::uS 8 [])),nS 3 ((some ⟨(.pair (.int .u64) (.pair (.int .u64) .unit)),d,[]⟩)::(some ⟨(.pair (.int .u64) (.pair (.int .u64) .unit)),e,[]⟩)::nS 13 [])⟩ J
def zsb(a b:Zt6):State:=⟨uS 2 ([.ptr 3 (.pair (.int .u64) (.pair (.int .u64) .unit)) []]::[.ptr 4 (.pair (.int .u64) (.pair (.int .u64) .unit)) []]::uS 13 []),nS 3 ((some ⟨(.pair (.int .u64) (.pair (.int .u64) .unit)),a,[]⟩)::(some ⟨(.pair (.int .u64) (.pair (.int .u64) .unit)),b,[]⟩)::nS 13 [])⟩
def z1lh:KX R:=(zk 0 (kSeq Q33_E (Tb48 R) kk (sub [1,1,1] (cd Tryz.f78)) (kFin Q33_E Tryz.f78.results.toList none K)))
theorem z21g(a:(List Int))(b c:Int)(d e:Zt6):zw0 R kk (k+1) J a b c d e=
 zib a b c d e (zw0 R kk k J) (fun a0 a1=>J (.exit 0) (zsb a0 a1)):=by kernel_rfl
theorem z1s8(a b:Zt6):z1lh R kk K (.exit 0) (zsb a b)=
 zw2 a b (fun a0=>K [.dat (.pair (.int .u64) (.pair (.int .u64) .unit)) a0 []] none):=by kernel_rfl
theorem z1xh{kk:Nat}(hF:kk=FUEL)(t6:(List Int))(t7 t8:Int)(bt2 bt3:Zt6):zw0 R kk k J t6 t7 t8 bt2 bt3=(z7t k t6 t7 t8 bt2 bt3).bind fun e=>J (.exit 0) (zsb e.1 e.2):=by
 induction k generalizing t6 t7 t8 bt2 bt3 with
 |zero=>rfl
 |succ k ih=>
  rw[z21g]
  simp only[z7t,zib,ih,nn_]
def Tb49:Funs:=Tb48.add 78 [(.sl 3 (.int .i64))] (pu1 (.sl 3 (.int .i64)) Q33 (fun _ r K=>K [.dat (.pair (.int .u64) (.pair (.int .u64) .unit)) r []] none))
theorem o49:Okt Tryz.prog Tb49:=st1 Q33_E Tryz.f78 (fun R kk x0 K=>zw1 x0 (zw0 R kk kk (z1lh R kk K))) o48 (ek _ _ _ _) Tryz.func78 (by kernel_rfl) rfl (fun _ _ _ _ _ _ h=>h _ _) (fun _ _ _ _=>by kernel_rfl) fun R kk e x0 K=>by
 simp only[Q33,zw1,zw2,z1xh (hF:=e),z1s8,nn_,←e]
def Q34_E:Env:=tab.env (fun _=>[]) (fun _=>[]) [4] [(.pair (.int .u64) (.pair (.int .u64) .unit)),(.pair (.int .u64) (.pair (.int .u64) .unit))]
def Tb50:Funs:=Tb49.add 79 [(.pair (.int .u64) (.pair (.int .u64) .unit)),(.pair (.int .u64) (.pair (.int .u64) .unit))] (pu2 (.pair (.int .u64) (.pair (.int .u64) .unit)) (.pair (.int .u64) (.pair (.int .u64) .unit)) Q34 (fun _ r K=>K [.dat (.pair (.int .u64) (.pair (.int .u64) .unit)) r []] none))
theorem o50:Okt Tryz.prog Tb50:=st2 Q34_E Tryz.f79 (fun R kk x0 x1 K=>zic x0 x1 (fun a0=>K [.dat (.pair (.int .u64) (.pair (.int .u64) .unit)) a0 []] none)) o49 (ek _ _ _ _) Tryz.func79 (by kernel_rfl) rfl (fun _ _ _ _ _ _ h=>h _ _) (fun _ _ _ _ _=>by kernel_rfl) fun R kk e x0 x1 K=>by
 simp only[Q34,zic,nn_]
def z5d:Env:=tab.env (fun i=>bif Nat.beq i 2 then [3,4,5,26,27,28] else bif Nat.beq i 12 then [3,4,5,13,46,48,49,50] else bif Nat.beq i 24 then [4,5,16,17,77,78,79] else []) (fun i=>bif Nat.beq i 2 then [3,4,5,6,7,8] else bif Nat.beq i 12 then [3,4,5,6,7,8] else bif Nat.beq i 24 then [6,7,8] else []) [] [y16,y15,y15]
def zpx(a:Zt21)(b c:Int)(d:Zt26)(e f:Zt20):Option R:=loopR (ev z5d (Tb50 R) kk (sub [1,0,1,0,0] (cd Tryz.f31))) [3,4,5,26,27,28] [3,4,5,6,7,8] k ⟨uS 3 ([.ptr 4 y16 []]::[.ptr 5 y15 []]::[.ptr 6 y15 []]::uS 20 ([.dat (.sl 24 y15) a [[]]]::[tI b]::[tI c]::uS 92 [])),nS 4 ((some ⟨y16,d,[]⟩)::(some ⟨y15,e,[]⟩)::(some ⟨y15,f,[]⟩)::nS 115 [])⟩ J
def zhx(a b c:Int)(d:Zt26)(e f:Zt20):State:=⟨uS 3 ([.ptr 4 y16 []]::[.ptr 5 y15 []]::[.ptr 6 y15 []]::[tI a]::[tI b]::[tI c]::uS 112 []),nS 4 ((some ⟨y16,d,[]⟩)::(some ⟨y15,e,[]⟩)::(some ⟨y15,f,[]⟩)::nS 115 [])⟩
def zhy(a:Zt26)(b c:Zt20):State:=⟨uS 3 ([.ptr 4 y16 []]::[.ptr 5 y15 []]::[.ptr 6 y15 []]::uS 115 []),nS 4 ((some ⟨y16,a,[]⟩)::(some ⟨y15,b,[]⟩)::(some ⟨y15,c,[]⟩)::nS 115 [])⟩
def z13u:KX R:=(zk 0 (kSeq z5d (Tb50 R) kk (sub [1,1] (cd Tryz.f31)) (kFin z5d Tryz.f31.results.toList none K)))
def zpy(a:Zt16)(b c:Int)(d:Zt26)(e f:Zt20)(g:Zt10):Option R:=loopR (ev z5d (Tb50 R) kk (sub [1,1,1,1,0,1,0,0] (cd Tryz.f31))) [3,4,5,13,46,48,49,50] [3,4,5,6,7,8] k ⟨uS 3 ([.ptr 4 y16 []]::[.ptr 5 y15 []]::[.ptr 6 y15 []]::uS 7 ([.ptr 47 (.spc .mp .str .bool) []]::uS 32 ([.ptr 47 (.spc .mp .str .bool) []]::uS 1 ([.dat (.sl 116 (.pair .str (.pair .str .unit))) a []]::[tI b]::[tI c]::uS 70 [])))),nS 4 ((some ⟨y16,d,[]⟩)::(some ⟨y15,e,[]⟩)::(some ⟨y15,f,[]⟩)::nS 40 ((some ⟨(.spc .mp .str .bool),g,[]⟩)::nS 74 []))⟩ J
def zhz(a b c:Int)(d:Zt26)(e f:Zt20):State:=⟨uS 3 ([.ptr 4 y16 []]::[.ptr 5 y15 []]::[.ptr 6 y15 []]::[tI a]::[tI b]::[tI c]::uS 112 []),nS 4 ((some ⟨y16,d,[]⟩)::(some ⟨y15,e,[]⟩)::(some ⟨y15,f,[]⟩)::nS 115 [])⟩
def zi0(a:Zt26)(b c:Zt20):State:=⟨uS 3 ([.ptr 4 y16 []]::[.ptr 5 y15 []]::[.ptr 6 y15 []]::uS 115 []),nS 4 ((some ⟨y16,a,[]⟩)::(some ⟨y15,b,[]⟩)::(some ⟨y15,c,[]⟩)::nS 115 [])⟩
def z13v:KX R:=(zk 2 (kSeq z5d (Tb50 R) kk (sub [1,1,1,1,1] (cd Tryz.f31)) (kFin z5d Tryz.f31.results.toList none K)))
def zpz(a:Zt24)(b c:Int)(d e:Zt20)(f g:Zt6):Option R:=loopR (ev z5d (Tb50 R) kk (sub [1,1,1,1,1,1,1,0,1,0,0] (cd Tryz.f31))) [4,5,16,17,77,78,79] [6,7,8] k ⟨uS 4 ([.ptr 5 y15 []]::[.ptr 6 y15 []]::uS 10 ([.ptr 17 (.pair (.int .u64) (.pair (.int .u64) .unit)) []]::[.ptr 18 (.pair (.int .u64) (.pair (.int .u64) .unit)) []]::uS 59 ([.dat (.sl 59 y12) a []]::[tI b]::[tI c]::uS 41 []))),nS 5 ((some ⟨y15,d,[]⟩)::(some ⟨y15,e,[]⟩)::nS 10 ((some ⟨(.pair (.int .u64) (.pair (.int .u64) .unit)),f,[]⟩)::(some ⟨(.pair (.int .u64) (.pair (.int .u64) .unit)),g,[]⟩)::nS 103 []))⟩ J
def zi1(a b c:Int):State:=⟨uS 6 ([tI a]::[tI b]::[tI c]::uS 112 []),nS 122 []⟩
def zi2:State:=⟨uS 121 [],nS 122 []⟩
def z13w:KX R:=(zk 5 (kSeq z5d (Tb50 R) kk (sub [1,1,1,1,1,1,1,1] (cd Tryz.f31)) (kFin z5d Tryz.f31.results.toList none K)))
theorem z1x7(a:Zt21)(b c:Int)(d:Zt26)(e f:Zt20):zpx R kk (k+1) J a b c d e f=
 zq1 a b c d e f (fun a0 a1 a2 a3 a4 a5=>J .ret (zhx a0 a1 a2 a3 a4 a5)) (zpx R kk k J) (fun a0 a1 a2=>J (.exit 0) (zhy a0 a1 a2)):=by kernel_rfl
theorem z1l2(a b c:Int)(d:Zt26)(e f:Zt20):z13u R kk K .ret (zhx a b c d e f)=
 z13x a b c d e f (fun a0 a1 a2=>K [tI a0,tI a1,tI a2] none):=by kernel_rfl
theorem z1l3(a:Zt26)(b c:Zt20):z13u R kk K (.exit 0) (zhy a b c)=
 zq2 a b c (fun a0 a1 a2=>K [tI a0,tI a1,tI a2] none) (zpy R kk kk (z13v R kk K)):=by kernel_rfl
theorem z1x8(a:Zt16)(b c:Int)(d:Zt26)(e f:Zt20)(g:Zt10):zpy R kk (k+1) J a b c d e f g=
 z13y a b c d e f g (fun a0 a1 a2 a3 a4 a5=>J .ret (zhz a0 a1 a2 a3 a4 a5)) (zpy R kk k J) (fun a0 a1 a2=>J (.exit 2) (zi0 a0 a1 a2)):=by kernel_rfl
theorem z1l4(a b c:Int)(d:Zt26)(e f:Zt20):z13v R kk K .ret (zhz a b c d e f)=
 z13z a b c d e f (fun a0 a1 a2=>K [tI a0,tI a1,tI a2] none):=by kernel_rfl
theorem z1l5(a:Zt26)(b c:Zt20):z13v R kk K (.exit 2) (zi0 a b c)=
 zq3 a b c (fun a0 a1 a2=>K [tI a0,tI a1,tI a2] none) (zpz R kk kk (z13w R kk K)):=by kernel_rfl
theorem z1x9(a:Zt24)(b c:Int)(d e:Zt20)(f g:Zt6):zpz R kk (k+1) J a b c d e f g=
 z140 a b c d e f g (fun a0 a1 a2=>J .ret (zi1 a0 a1 a2)) (zpz R kk k J) (J (.exit 5) (zi2)):=by kernel_rfl
theorem z1l6(a b c:Int):z13w R kk K .ret (zi1 a b c)=
 z141 a b c (fun a0 a1 a2=>K [tI a0,tI a1,tI a2] none):=by kernel_rfl
theorem z1l7:z13w R kk K (.exit 5) (zi2)=
 z142 (fun a0 a1 a2=>K [tI a0,tI a1,tI a2] none):=by kernel_rfl
theorem z1rx{kk:Nat}(hF:kk=FUEL)(t26:Zt21)(t27 t28:Int)(bt3:Zt26)(bt4 bt5:Zt20):zpx R kk k J t26 t27 t28 bt3 bt4 bt5=(z9b k t26 t27 t28 bt3 bt4 bt5).bind fun e=>(Sum.elim (fun(we:Zt33)=>J .ret (zhx we.1 we.2.1 we.2.2.1 we.2.2.2.1 we.2.2.2.2.1 we.2.2.2.2.2)) (fun(we:Zt31)=>J (.exit 0) (zhy we.1 we.2.1 we.2.2)) e):=by
 induction k generalizing t26 t27 t28 bt3 bt4 bt5 with
 |zero=>rfl
 |succ k ih=>
  rw[z1x7]
  simp only[z9b,zq1,ih,nn_]
theorem z1ry{kk:Nat}(hF:kk=FUEL)(t48:Zt16)(t49 t50:Int)(bt3:Zt26)(bt4 bt5:Zt20)(bt13:Zt10):zpy R kk k J t48 t49 t50 bt3 bt4 bt5 bt13=(z9c k t48 t49 t50 bt3 bt4 bt5 bt13).bind fun e=>(Sum.elim (fun(we:Zt33)=>J .ret (zhz we.1 we.2.1 we.2.2.1 we.2.2.2.1 we.2.2.2.2.1 we.2.2.2.2.2)) (fun(we:Zt31)=>J (.exit 2) (zi0 we.1 we.2.1 we.2.2)) e):=by
 induction k generalizing t48 t49 t50 bt3 bt4 bt5 bt13 with
 |zero=>rfl
 |succ k ih=>
  rw[z1x8]
  simp only[z9c,z13y,ih,nn_]
theorem z1rz{kk:Nat}(hF:kk=FUEL)(t77:Zt24)(t78 t79:Int)(bt4 bt5:Zt20)(bt16 bt17:Zt6):zpz R kk k J t77 t78 t79 bt4 bt5 bt16 bt17=(zcu k t77 t78 t79 bt4 bt5 bt16 bt17).bind fun e=>(Sum.elim (fun(we:Zt1)=>J .ret (zi1 we.1 we.2.1 we.2.2)) (fun(we:Unit)=>J (.exit 5) (zi2)) e):=by
 induction k generalizing t77 t78 t79 bt4 bt5 bt16 bt17 with
 |zero=>rfl
 |succ k ih=>
  rw[z1x9]
  simp only[zcu,z140,ih,nn_]
def Tb51:Funs:=Tb50.add 31 [y16,y15,y15] (pu3 y16 y15 y15 Q251 (fun _ r K=>K [tI r.1,tI r.2.1,tI r.2.2] none))
theorem o51:Okt Tryz.prog Tb51:=st3 z5d Tryz.f31 (fun R kk x0 x1 x2 K=>zq0 x0 x1 x2 (zpx R kk kk (z13u R kk K))) o50 (ek _ _ _ _) Tryz.func31 (by kernel_rfl) rfl (fun _ _ _ _ _ _ h=>h _ _) (fun _ _ _ _ _ _=>by kernel_rfl) fun R kk e x0 x1 x2 K=>by
 simp only[Q251,zq0,z13x,zq2,z13z,zq3,z141,z142,z1rx (hF:=e),z1ry (hF:=e),z1rz (hF:=e),z1l2,z1l3,z1l4,z1l5,z1l6,z1l7,nn_,←e]
def zv8:Env:=tab.env (fun i=>bif Nat.beq i 4 then [1,22,23] else []) (fun i=>bif Nat.beq i 4 then [2,3,4] else []) [] [y19]
def zol(a:Zt30)(b:Int)(c:Zt32):Option R:=loopR (ev zv8 (Tb51 R) kk (sub [1,1,0,1,0,0] (cd Tryz.f11))) [1,22,23] [2,3,4] k ⟨uS 1 ([.ptr 2 y19 []]::uS 20 ([.dat (.arr 2 y18) a []]::[tI b]::uS 33 [])),nS 2 ((some ⟨y19,c,[]⟩)::nS 55 [])⟩ J
def zha(a b c:Int):State:=⟨uS 2 ([tI a]::[tI b]::[tI c]::uS 52 []),nS 58 []⟩
def zhb:State:=⟨uS 57 [],nS 58 []⟩
def z12x:KX R:=(zk 0 (kSeq zv8 (Tb51 R) kk (sub [1,1,1] (cd Tryz.f11)) (kFin zv8 Tryz.f11.results.toList none K)))
theorem z1wt(a:Zt30)(b:Int)(c:Zt32):zol R kk (k+1) J a b c=
 z96 a b c (fun a0 a1 a2=>J .ret (zha a0 a1 a2)) (zol R kk k J) (J (.exit 0) (zhb)):=by kernel_rfl
theorem z1kh(a b c:Int):z12x R kk K .ret (zha a b c)=
 z12y a b c (fun a0 a1 a2=>K [tI a0,tI a1,tI a2] none):=by kernel_rfl
theorem z1ki:z12x R kk K (.exit 0) (zhb)=
 z12z (fun a0 a1 a2=>K [tI a0,tI a1,tI a2] none):=by kernel_rfl
theorem z1rh{kk:Nat}(hF:kk=FUEL)(t22:Zt30)(t23:Int)(bt1:Zt32):zol R kk k J t22 t23 bt1=(z7g k t22 t23 bt1).bind fun e=>(Sum.elim (fun(we:Zt1)=>J .ret (zha we.1 we.2.1 we.2.2)) (fun(we:Unit)=>J (.exit 0) (zhb)) e):=by
 induction k generalizing t22 t23 bt1 with
 |zero=>rfl
 |succ k ih=>
  rw[z1wt]
  simp only[z7g,z96,ih,nn_]
def Tb52:Funs:=Tb51.add 11 [y19] (pu1 y19 Q205 (fun _ r K=>K [tI r.1,tI r.2.1,tI r.2.2] none))
theorem o52:Okt Tryz.prog Tb52:=st1 zv8 Tryz.f11 (fun R kk x0 K=>zom x0 (fun a0 a1 a2=>K [tI a0,tI a1,tI a2] none) (zol R kk kk (z12x R kk K))) o51 (ek _ _ _ _) Tryz.func11 (by kernel_rfl) rfl (fun _ _ _ _ _ _ h=>h _ _) (fun _ _ _ _=>by kernel_rfl) fun R kk e x0 K=>by
 simp only[Q205,zom,z12y,z12z,z1rh (hF:=e),z1kh,z1ki,nn_,←e]
def Q2_E:Env:=e0 [(.int .i64)]
def Tb53:Funs:=Tb52.add 163 [(.int .i64)] (pu1 (.int .i64) Q2 (fun _ r K=>K [tI r] none))
theorem o53:Okt Tryz.prog Tb53:=st1 Q2_E Tryz.f163 (fun R kk x0 K=>Q2_s0 x0 (fun a0=>K [tI a0] none)) o52 (ek _ _ _ _) Tryz.func163 (by kernel_rfl) rfl (fun _ _ _ _ _ _ h=>h _ _) (fun _ _ _ _=>by kernel_rfl) fun R kk e x0 K=>by
 simp only[Q2,Q2_s0,nn_]
def Q0_E:Env:=tab.env (fun i=>bif Nat.beq i 7 then [0,1,7,30,31] else []) (fun i=>bif Nat.beq i 7 then [1,4,5,6,7] else []) [] [.str,(.int .i64)]
def Q0_L0(a:ByteArray)(b:Int)(c:(List Int))(d e:Int):Option R:=loopR (ev Q0_E (Tb53 R) kk (sub [1,1,1,0,1,0,0] (cd Tryz.f164))) [0,1,7,30,31] [1,4,5,6,7] k ⟨[tS a]::[tI b]::uS 5 ([.dat (.sl 5 (.int .u8)) c [[]]]::uS 22 ([tI d]::[tI e]::uS 43 [])),nS 76 []⟩ J
def zz9(a:Int)(b:ByteArray)(c d:Int)(e:(List Int)):State:=⟨uS 1 ([tI a]::uS 2 ([tS b]::[tI c]::[tI d]::[.dat (.sl 5 (.int .u8)) e [[]]]::uS 67 [])),nS 76 []⟩
def zza(a:Int)(b:(List Int)):State:=⟨uS 1 ([tI a]::uS 5 ([.dat (.sl 5 (.int .u8)) b [[]]]::uS 67 [])),nS 76 []⟩
def Q0_K0:KX R:=(zk 1 (kSeq Q0_E (Tb53 R) kk (sub [1,1,1,1] (cd Tryz.f164)) (kFin Q0_E Tryz.f164.results.toList none K)))
theorem Q0_d0(a:ByteArray)(b:Int)(c:(List Int))(d e:Int):Q0_L0 R kk (k+1) J a b c d e=
 Q0_s1 a b c d e (fun a0 a1 a2 a3 a4=>J .ret (zz9 a0 a1 a2 a3 a4)) (Q0_L0 R kk k J) (fun a0 a1=>J (.exit 1) (zza a0 a1)):=by kernel_rfl
theorem z1ve(a:Int)(b:ByteArray)(c d:Int)(e:(List Int)):Q0_K0 R kk K .ret (zz9 a b c d e)=
 Q0_s2 a b c d e (fun a0 a1 a2=>K [tS a0,tI a1,tI a2] none):=by kernel_rfl
theorem z1vf(a:Int)(b:(List Int)):Q0_K0 R kk K (.exit 1) (zza a b)=
 Q0_s3 a b (fun a0 a1 a2=>K [tS a0,tI a1,tI a2] none):=by kernel_rfl
theorem z1zg{kk:Nat}(hF:kk=FUEL)(b_0:ByteArray)(n_1:Int)(t7:(List Int))(t30 t31:Int):Q0_L0 R kk k J b_0 n_1 t7 t30 t31=(Q0_l0 k b_0 n_1 t7 t30 t31).bind fun e=>(Sum.elim (fun(we:(Int×ByteArray×Int×Int×(List Int)))=>J .ret (zz9 we.1 we.2.1 we.2.2.1 we.2.2.2.1 we.2.2.2.2)) (fun(we:(Int×(List Int)))=>J (.exit 1) (zza we.1 we.2)) e):=by
 induction k generalizing b_0 n_1 t7 t30 t31 with
 |zero=>rfl
 |succ k ih=>
  rw[Q0_d0]
  simp only[Q0_l0,Q0_s1,ih,nn_]
def Tb54:Funs:=Tb53.add 164 [.str,(.int .i64)] (pu2 .str (.int .i64) Q0 (fun _ r K=>K [tS r.1,tI r.2.1,tI r.2.2] none))
theorem o54:Okt Tryz.prog Tb54:=st2 Q0_E Tryz.f164 (fun R kk x0 x1 K=>Q0_s0 x0 x1 (fun a0 a1 a2=>K [tS a0,tI a1,tI a2] none) (Q0_L0 R kk kk (Q0_K0 R kk K))) o53 (ek _ _ _ _) Tryz.func164 (by kernel_rfl) rfl (fun _ _ _ _ _ _ h=>h _ _) (fun _ _ _ _ _=>by kernel_rfl) fun R kk e x0 x1 K=>by
 simp only[Q0,Q0_s0,Q0_s2,Q0_s3,z1zg (hF:=e),z1ve,z1vf,nn_,←e]
def z215:Env:=e0 [y15,.str]
def Tb55:Funs:=Tb54.add 104 [y15,.str] (pu2 y15 .str Q233 (fun _ r K=>K [tS r.1,tI r.2.1,tI r.2.2] none))
theorem o55:Okt Tryz.prog Tb55:=st2 z215 Tryz.f104 (fun R kk x0 x1 K=>zpe x0 x1 (fun a0 a1 a2=>K [tS a0,tI a1,tI a2] none)) o54 (ek _ _ _ _) Tryz.func104 (by kernel_rfl) rfl (fun _ _ _ _ _ _ h=>h _ _) (fun _ _ _ _ _=>by kernel_rfl) fun R kk e x0 x1 K=>by
 simp only[Q233,zpe,nn_]
def Q9_E:Env:=e0 [(.int .i64)]
def Tb56:Funs:=Tb55.add 155 [(.int .i64)] (pu1 (.int .i64) Q9 (fun _ r K=>K [tB r] none))
theorem o56:Okt Tryz.prog Tb56:=st1 Q9_E Tryz.f155 (fun R kk x0 K=>Q9_s0 x0 (fun a0=>K [tB a0] none)) o55 (ek _ _ _ _) Tryz.func155 (by kernel_rfl) rfl (fun _ _ _ _ _ _ h=>h _ _) (fun _ _ _ _=>by kernel_rfl) fun R kk e x0 K=>by
 simp only[Q9,Q9_s0,nn_]
def z20a:Env:=e0 [(.int .u8)]
def Tb57:Funs:=Tb56.add 205 [(.int .u8)] (pu1 (.int .u8) Q169 (fun _ r K=>K [tI r.1,tB r.2] none))
theorem o57:Okt Tryz.prog Tb57:=st1 z20a Tryz.f205 (fun R kk x0 K=>z11z x0 (fun a0 a1=>K [tI a0,tB a1] none)) o56 (ek _ _ _ _) Tryz.func205 (by kernel_rfl) rfl (fun _ _ _ _ _ _ h=>h _ _) (fun _ _ _ _=>by kernel_rfl) fun R kk e x0 K=>by
 simp only[Q169,z11z,nn_]
def zuy:Env:=tab.env (fun i=>bif Nat.beq i 4 then [0,5,6,7] else []) (fun i=>bif Nat.beq i 4 then [0,2,3,4,5] else []) [] [.str]
def znj(a:ByteArray)(b:(List Int))(c d:Int):Option R:=loopR (ev zuy (Tb57 R) kk (sub [1,1,1,0,1,0,0] (cd Tryz.f170))) [0,5,6,7] [0,2,3,4,5] k ⟨[tS a]::uS 4 ([.dat (.sl 5 (.int .u8)) b [[]]]::[tI c]::[tI d]::uS 44 []),nS 53 []⟩ J
def zgr(a b:ByteArray)(c:Int)(d:Bool)(e:(List Int)):State:=⟨[tS a]::uS 1 ([tS b]::[tI c]::[tB d]::[.dat (.sl 5 (.int .u8)) e [[]]]::uS 46 []),nS 53 []⟩
def zgs(a:ByteArray)(b:(List Int)):State:=⟨[tS a]::uS 4 ([.dat (.sl 5 (.int .u8)) b [[]]]::uS 46 []),nS 53 []⟩
def z120:KX R:=(zk 0 (kSeq zuy (Tb57 R) kk (sub [1,1,1,1] (cd Tryz.f170)) (kFin zuy Tryz.f170.results.toList none K)))
theorem z1wg(a:ByteArray)(b:(List Int))(c d:Int):znj R kk (k+1) J a b c d=
 zca a b c d (fun a0 a1 a2 a3 a4=>J .ret (zgr a0 a1 a2 a3 a4)) (znj R kk k J) (fun a0 a1=>J (.exit 0) (zgs a0 a1)):=by kernel_rfl
theorem z1jy(a b:ByteArray)(c:Int)(d:Bool)(e:(List Int)):z120 R kk K .ret (zgr a b c d e)=
 z121 a b c d e (fun a0 a1 a2=>K [tS a0,tI a1,tB a2] none):=by kernel_rfl
theorem z1jz(a:ByteArray)(b:(List Int)):z120 R kk K (.exit 0) (zgs a b)=
 znl a b (fun a0 a1 a2=>K [tS a0,tI a1,tB a2] none):=by kernel_rfl
theorem z1r5{kk:Nat}(hF:kk=FUEL)(s_0:ByteArray)(t5:(List Int))(t6 t7:Int):znj R kk k J s_0 t5 t6 t7=(z7c k s_0 t5 t6 t7).bind fun e=>(Sum.elim (fun(we:(ByteArray×ByteArray×Int×Bool×(List Int)))=>J .ret (zgr we.1 we.2.1 we.2.2.1 we.2.2.2.1 we.2.2.2.2)) (fun(we:(ByteArray×(List Int)))=>J (.exit 0) (zgs we.1 we.2)) e):=by
 induction k generalizing s_0 t5 t6 t7 with
 |zero=>rfl
 |succ k ih=>
  rw[z1wg]
  simp only[z7c,zca,ih,nn_]
def Tb58:Funs:=Tb57.add 170 [.str] (pu1 .str Q170 (fun _ r K=>K [tS r.1,tI r.2.1,tB r.2.2] none))
theorem o58:Okt Tryz.prog Tb58:=st1 zuy Tryz.f170 (fun R kk x0 K=>znk x0 (znj R kk kk (z120 R kk K))) o57 (ek _ _ _ _) Tryz.func170 (by kernel_rfl) rfl (fun _ _ _ _ _ _ h=>h _ _) (fun _ _ _ _=>by kernel_rfl) fun R kk e x0 K=>by
 simp only[Q170,znk,z121,znl,z1r5 (hF:=e),z1jy,z1jz,nn_,←e]
def Q10_E:Env:=tab.env (fun _=>[]) (fun _=>[]) [6] [(.int .i64),.str,(.int .i64)]
def Tb59:Funs:=Tb58.add 165 [(.int .i64),.str,(.int .i64)] (pu3 (.int .i64) .str (.int .i64) Q10 (fun _ r K=>K [.dat (.arr 8 (.int .u8)) r.1 [],tI r.2.1,tI r.2.2] none))
theorem o59:Okt Tryz.prog Tb59:=st3 Q10_E Tryz.f165 (fun R kk x0 x1 x2 K=>zu6 x0 x1 x2 (fun a0 a1 a2=>K [.dat (.arr 8 (.int .u8)) a0 [],tI a1,tI a2] none)) o58 (ek _ _ _ _) Tryz.func165 (by kernel_rfl) rfl (fun _ _ _ _ _ _ h=>h _ _) (fun _ _ _ _ _ _=>by kernel_rfl) fun R kk e x0 x1 x2 K=>by
 simp only[Q10,zu6,nn_]
def Q7_E:Env:=tab.env (fun i=>bif Nat.beq i 3 then [3,6,7] else []) (fun i=>bif Nat.beq i 3 then [3] else []) [] [(.arr 8 (.int .u8))]
def Q7_L0(a:Int)(b:(List Int))(c:Int):Option R:=loopR (ev Q7_E (Tb59 R) kk (sub [1,1,0,1,0,0] (cd Tryz.f166))) [3,6,7] [3] k ⟨uS 3 ([.dat (.int .u64) a []]::uS 2 ([.dat (.arr 8 (.int .u8)) b []]::[tI c]::uS 9 [])),nS 18 []⟩ J
def z14j(a:Int):State:=⟨uS 3 ([.dat (.int .u64) a []]::uS 13 []),nS 18 []⟩
def Q7_K0:KX R:=(zk 0 (kSeq Q7_E (Tb59 R) kk (sub [1,1,1] (cd Tryz.f166)) (kFin Q7_E Tryz.f166.results.toList none K)))
theorem Q7_d0(a:Int)(b:(List Int))(c:Int):Q7_L0 R kk (k+1) J a b c=
 Q7_s1 a b c (Q7_L0 R kk k J) (fun a0=>J (.exit 0) (z14j a0)):=by kernel_rfl
theorem z1xv(a:Int):Q7_K0 R kk K (.exit 0) (z14j a)=
 Q7_s2 a (fun a0=>K [.dat (.int .u64) a0 []] none):=by kernel_rfl
theorem z21u{kk:Nat}(hF:kk=FUEL)(t3:Int)(t6:(List Int))(t7:Int):Q7_L0 R kk k J t3 t6 t7=(Q7_l0 k t3 t6 t7).bind fun e=>J (.exit 0) (z14j e):=by
 induction k generalizing t3 t6 t7 with
 |zero=>rfl
 |succ k ih=>
  rw[Q7_d0]
  simp only[Q7_l0,Q7_s1,ih,nn_]
def Tb60:Funs:=Tb59.add 166 [(.arr 8 (.int .u8))] (pu1 (.arr 8 (.int .u8)) Q7 (fun _ r K=>K [.dat (.int .u64) r []] none))
theorem o60:Okt Tryz.prog Tb60:=st1 Q7_E Tryz.f166 (fun R kk x0 K=>Q7_s0 x0 (Q7_L0 R kk kk (Q7_K0 R kk K))) o59 (ek _ _ _ _) Tryz.func166 (by kernel_rfl) rfl (fun _ _ _ _ _ _ h=>h _ _) (fun _ _ _ _=>by kernel_rfl) fun R kk e x0 K=>by
 simp only[Q7,Q7_s0,Q7_s2,z21u (hF:=e),z1xv,nn_,←e]
def Q32_E:Env:=tab.env (fun _=>[]) (fun _=>[]) [4] [(.int .u64),(.int .u64)]
def Tb61:Funs:=Tb60.add 167 [(.int .u64),(.int .u64)] (pu2 (.int .u64) (.int .u64) Q32 (fun _ r K=>K [.dat (.pair (.int .u64) (.pair (.int .u64) .unit)) r []] none))
theorem o61:Okt Tryz.prog Tb61:=st2 Q32_E Tryz.f167 (fun R kk x0 x1 K=>z19c x0 x1 (fun a0=>K [.dat (.pair (.int .u64) (.pair (.int .u64) .unit)) a0 []] none)) o60 (ek _ _ _ _) Tryz.func167 (by kernel_rfl) rfl (fun _ _ _ _ _ _ h=>h _ _) (fun _ _ _ _ _=>by kernel_rfl) fun R kk e x0 x1 K=>by
 simp only[Q32,z19c,nn_]
def Q5_E:Env:=tab.env (fun _=>[]) (fun _=>[]) [6] [(.int .i64),.str,(.int .i64)]
def Tb62:Funs:=Tb61.add 105 [(.int .i64),.str,(.int .i64)] (pu3 (.int .i64) .str (.int .i64) Q5 (fun _ r K=>K [.dat (.pair (.int .u64) (.pair (.int .u64) .unit)) r.1 [],tI r.2.1,tI r.2.2] none))
theorem o62:Okt Tryz.prog Tb62:=st3 Q5_E Tryz.f105 (fun R kk x0 x1 x2 K=>Q5_s0 x0 x1 x2 (fun a0 a1 a2=>K [.dat (.pair (.int .u64) (.pair (.int .u64) .unit)) a0 [],tI a1,tI a2] none)) o61 (ek _ _ _ _) Tryz.func105 (by kernel_rfl) rfl (fun _ _ _ _ _ _ h=>h _ _) (fun _ _ _ _ _ _=>by kernel_rfl) fun R kk e x0 x1 x2 K=>by
 simp only[Q5,Q5_s0,nn_]
def z20c:Env:=e0 [(.int .u64)]
def Tb63:Funs:=Tb62.add 203 [(.int .u64)] (pu1 (.int .u64) Q178 (fun _ r K=>K [tI r] none))
theorem o63:Okt Tryz.prog Tb63:=st1 z20c Tryz.f203 (fun R kk x0 K=>z123 x0 (fun a0=>K [tI a0] none)) o62 (ek _ _ _ _) Tryz.func203 (by kernel_rfl) rfl (fun _ _ _ _ _ _ h=>h _ _) (fun _ _ _ _=>by kernel_rfl) fun R kk e x0 K=>by
 simp only[Q178,z123,nn_]
def z20b:Env:=e0 [(.int .u64)]
def Tb64:Funs:=Tb63.add 168 [(.int .u64)] (pu1 (.int .u64) Q177 (fun _ r K=>K [tI r] none))
theorem o64:Okt Tryz.prog Tb64:=st1 z20b Tryz.f168 (fun R kk x0 K=>zno x0 (fun a0=>K [tI a0] none)) o63 (ek _ _ _ _) Tryz.func168 (by kernel_rfl) rfl (fun _ _ _ _ _ _ h=>h _ _) (fun _ _ _ _=>by kernel_rfl) fun R kk e x0 K=>by
 simp only[Q177,zno,nn_]
def Q39_E:Env:=e0 [(.pair (.int .u64) (.pair (.int .u64) .unit)),(.int .i64)]
def Tb65:Funs:=Tb64.add 106 [(.pair (.int .u64) (.pair (.int .u64) .unit)),(.int .i64)] (pu2 (.pair (.int .u64) (.pair (.int .u64) .unit)) (.int .i64) Q39 (fun _ r K=>K [tI r] none))
theorem o65:Okt Tryz.prog Tb65:=st2 Q39_E Tryz.f106 (fun R kk x0 x1 K=>zw5 x0 x1 (fun a0=>K [tI a0] none)) o64 (ek _ _ _ _) Tryz.func106 (by kernel_rfl) rfl (fun _ _ _ _ _ _ h=>h _ _) (fun _ _ _ _ _=>by kernel_rfl) fun R kk e x0 x1 K=>by
 simp only[Q39,zw5,nn_]
def Q14_E:Env:=e0 [(.int .i64)]
def Tb66:Funs:=Tb65.add 160 [(.int .i64)] (pu1 (.int .i64) Q14 (fun _ r K=>K [tB r] none))
theorem o66:Okt Tryz.prog Tb66:=st1 Q14_E Tryz.f160 (fun R kk x0 K=>zgi x0 (fun a0=>K [tB a0] none)) o65 (ek _ _ _ _) Tryz.func160 (by kernel_rfl) rfl (fun _ _ _ _ _ _ h=>h _ _) (fun _ _ _ _=>by kernel_rfl) fun R kk e x0 K=>by
 simp only[Q14,zgi,nn_]
def z20l:Env:=e0 [(.int .i64),(.int .i64)]
def Tb67:Funs:=Tb66.add 200 [(.int .i64),(.int .i64)] (pu2 (.int .i64) (.int .i64) Q196 (fun _ r K=>K [tB r] none))
theorem o67:Okt Tryz.prog Tb67:=st2 z20l Tryz.f200 (fun R kk x0 x1 K=>zcg x0 x1 (fun a0=>K [tB a0] none)) o66 (ek _ _ _ _) Tryz.func200 (by kernel_rfl) rfl (fun _ _ _ _ _ _ h=>h _ _) (fun _ _ _ _ _=>by kernel_rfl) fun R kk e x0 x1 K=>by
 simp only[Q196,zcg,nn_]
def Q29_E:Env:=tab.env (fun i=>bif Nat.beq i 5 then [4,20] else []) (fun i=>bif Nat.beq i 5 then [4] else []) [] [.str]
def zvt(a:Int)(b:Zt0):Option R:=loopR (ev Q29_E (Tb67 R) kk (sub [1,1,1,0,1,0,0] (cd Tryz.f204))) [4,20] [4] k ⟨uS 4 ([tI a]::uS 15 ([.ptr 21 (.spc .iter .unit .unit) []]::uS 10 [])),nS 21 ((some ⟨(.spc .iter .unit .unit),b,[]⟩)::nS 10 [])⟩ J
def zs9(a:Int):State:=⟨uS 4 ([tI a]::uS 26 []),nS 32 []⟩
def z1lf:KX R:=(zk 0 (kSeq Q29_E (Tb67 R) kk (sub [1,1,1,1] (cd Tryz.f204)) (kFin Q29_E Tryz.f204.results.toList none K)))
theorem z21e(a:Int)(b:Zt0):zvt R kk (k+1) J a b=
 zvv a b (zvt R kk k J) (fun a0=>J (.exit 0) (zs9 a0)):=by kernel_rfl
theorem z1s6(a:Int):z1lf R kk K (.exit 0) (zs9 a)=
 z19b a (fun a0 a1=>K [tI a0,tB a1] none):=by kernel_rfl
theorem z1xf{kk:Nat}(hF:kk=FUEL)(t4:Int)(bt20:Zt0):zvt R kk k J t4 bt20=(zd0 k t4 bt20).bind fun e=>J (.exit 0) (zs9 e):=by
 induction k generalizing t4 bt20 with
 |zero=>rfl
 |succ k ih=>
  rw[z21e]
  simp only[zd0,zvv,ih,nn_]
def Tb68:Funs:=Tb67.add 204 [.str] (pu1 .str Q29 (fun _ r K=>K [tI r.1,tB r.2] none))
theorem o68:Okt Tryz.prog Tb68:=st1 Q29_E Tryz.f204 (fun R kk x0 K=>zvu x0 (fun a0 a1=>K [tI a0,tB a1] none) (zvt R kk kk (z1lf R kk K))) o67 (ek _ _ _ _) Tryz.func204 (by kernel_rfl) rfl (fun _ _ _ _ _ _ h=>h _ _) (fun _ _ _ _=>by kernel_rfl) fun R kk e x0 K=>by
 simp only[Q29,zvu,z19b,z1xf (hF:=e),z1s6,nn_,←e]
def z20j:Env:=e0 [(.int .i64),(.int .i64),.str,(.int .i64)]
def Tb69:Funs:=Tb68.add 169 [(.int .i64),(.int .i64),.str,(.int .i64)] (pu4 (.int .i64) (.int .i64) .str (.int .i64) Q193 (fun _ r K=>K [tI r.1,tI r.2.1,tI r.2.2] none))
theorem o69:Okt Tryz.prog Tb69:=st4 z20j Tryz.f169 (fun R kk x0 x1 x2 x3 K=>zo2 x0 x1 x2 x3 (fun a0 a1 a2=>K [tI a0,tI a1,tI a2] none)) o68 (ek _ _ _ _) Tryz.func169 (by kernel_rfl) rfl (fun _ _ _ _ _ _ h=>h _ _) (fun _ _ _ _ _ _ _=>by kernel_rfl) fun R kk e x0 x1 x2 x3 K=>by
 simp only[Q193,zo2,nn_]
def Q13_E:Env:=e0 [(.int .i64),(.int .i64)]
def Tb70:Funs:=Tb69.add 162 [(.int .i64),(.int .i64)] (pu2 (.int .i64) (.int .i64) Q13 (fun _ r K=>K [tI r] none))
theorem o70:Okt Tryz.prog Tb70:=st2 Q13_E Tryz.f162 (fun R kk x0 x1 K=>zum x0 x1 (fun a0=>K [tI a0] none)) o69 (ek _ _ _ _) Tryz.func162 (by kernel_rfl) rfl (fun _ _ _ _ _ _ h=>h _ _) (fun _ _ _ _ _=>by kernel_rfl) fun R kk e x0 x1 K=>by
 simp only[Q13,zum,nn_]
def Q11_E:Env:=e0 [(.int .i64),y9,.str,(.int .i64)]
def Tb71:Funs:=Tb70.add 107 [(.int .i64),y9,.str,(.int .i64)] (pu4 (.int .i64) y9 .str (.int .i64) Q11 (fun _ r K=>K [tS r.1,tI r.2.1,tI r.2.2] none))
theorem o71:Okt Tryz.prog Tb71:=st4 Q11_E Tryz.f107 (fun R kk x0 x1 x2 x3 K=>zub x0 x1 x2 x3 (fun a0 a1 a2=>K [tS a0,tI a1,tI a2] none)) o70 (ek _ _ _ _) Tryz.func107 (by kernel_rfl) rfl (fun _ _ _ _ _ _ h=>h _ _) (fun _ _ _ _ _ _ _=>by kernel_rfl) fun R kk e x0 x1 x2 x3 K=>by
 simp only[Q11,zub,nn_]
def zvj:Env:=tab.env (fun i=>bif Nat.beq i 13 then [1,2,4,5,6,10,12,13] else []) (fun i=>bif Nat.beq i 13 then [1,4,5,6,10] else []) [4,5] [y15,.str]
def zpc(a:ByteArray)(b c:Int)(d:Zt20)(e:Zt19)(f:Zt6)(g:Zt19)(h:Zt6):Option R:=loopR (ev zvj (Tb71 R) kk (sub [1,1,1,1,1,1,1,1,0,1,0,0] (cd Tryz.f39))) [1,2,4,5,6,10,12,13] [1,4,5,6,10] k ⟨uS 1 ([tS a]::[.ptr 3 y15 []]::uS 1 ([.ptr 5 y5 []]::[.ptr 6 (.pair (.int .i64) (.pair (.int .i64) .unit)) []]::[.ptr 7 y5 []]::uS 3 ([tI b]::uS 1 ([.ptr 13 (.pair (.int .u64) (.pair (.int .u64) .unit)) []]::[tI c]::uS 93 [])))),nS 3 ((some ⟨y15,d,[]⟩)::nS 1 ((some ⟨y5,e,[[1]]⟩)::(some ⟨(.pair (.int .i64) (.pair (.int .i64) .unit)),f,[]⟩)::(some ⟨y5,g,[[1]]⟩)::nS 5 ((some ⟨(.pair (.int .u64) (.pair (.int .u64) .unit)),h,[]⟩)::nS 94 [])))⟩ J
def zhq(a:ByteArray)(b:Int)(c:Zt19)(d:Zt6)(e:Zt19):State:=⟨uS 1 ([tS a]::uS 2 ([.ptr 5 y5 []]::[.ptr 6 (.pair (.int .i64) (.pair (.int .i64) .unit)) []]::[.ptr 7 y5 []]::uS 3 ([tI b]::uS 96 []))),nS 5 ((some ⟨y5,c,[[1]]⟩)::(some ⟨(.pair (.int .i64) (.pair (.int .i64) .unit)),d,[]⟩)::(some ⟨y5,e,[]⟩)::nS 100 [])⟩
def zhr(a:ByteArray)(b:Int)(c:Zt19)(d:Zt6)(e:Zt19):State:=⟨uS 1 ([tS a]::uS 2 ([.ptr 5 y5 []]::[.ptr 6 (.pair (.int .i64) (.pair (.int .i64) .unit)) []]::[.ptr 7 y5 []]::uS 3 ([tI b]::uS 96 []))),nS 5 ((some ⟨y5,c,[[1]]⟩)::(some ⟨(.pair (.int .i64) (.pair (.int .i64) .unit)),d,[]⟩)::(some ⟨y5,e,[[1]]⟩)::nS 100 [])⟩
def z13l:KX R:=(zk 0 (kSeq zvj (Tb71 R) kk (sub [1,1,1,1,1,1,1,1,1] (cd Tryz.f39)) (kFin zvj Tryz.f39.results.toList none K)))
theorem z1x2(a:ByteArray)(b c:Int)(d:Zt20)(e:Zt19)(f:Zt6)(g:Zt19)(h:Zt6):zpc R kk (k+1) J a b c d e f g h=
 zcs a b c d e f g h (fun a0 a1 a2 a3 a4=>J .ret (zhq a0 a1 a2 a3 a4)) (zpc R kk k J) (fun a0 a1 a2 a3 a4=>J (.exit 0) (zhr a0 a1 a2 a3 a4)):=by kernel_rfl
theorem z1kv(a:ByteArray)(b:Int)(c:Zt19)(d:Zt6)(e:Zt19):z13l R kk K .ret (zhq a b c d e)=
 z13m a b c d e (fun a0 a1=>K [.dat y5 a0 [[1]],.dat (.pair (.int .i64) (.pair (.int .i64) .unit)) a1 []] none):=by kernel_rfl
theorem z1kw(a:ByteArray)(b:Int)(c:Zt19)(d:Zt6)(e:Zt19):z13l R kk K (.exit 0) (zhr a b c d e)=
 z13n a b c d e (fun a0 a1=>K [.dat y5 a0 [[1]],.dat (.pair (.int .i64) (.pair (.int .i64) .unit)) a1 []] none):=by kernel_rfl
theorem z1rs{kk:Nat}(hF:kk=FUEL)(b_1:ByteArray)(t10 t13:Int)(bt2:Zt20)(bt4:Zt19)(bt5:Zt6)(bt6:Zt19)(bt12:Zt6):zpc R kk k J b_1 t10 t13 bt2 bt4 bt5 bt6 bt12=(z7h k b_1 t10 t13 bt2 bt4 bt5 bt6 bt12).bind fun e=>(Sum.elim (fun(we:Zt27)=>J .ret (zhq we.1 we.2.1 we.2.2.1 we.2.2.2.1 we.2.2.2.2)) (fun(we:Zt27)=>J (.exit 0) (zhr we.1 we.2.1 we.2.2.1 we.2.2.2.1 we.2.2.2.2)) e):=by
 induction k generalizing b_1 t10 t13 bt2 bt4 bt5 bt6 bt12 with
 |zero=>rfl
 |succ k ih=>
  rw[z1x2]
  simp only[z7h,zcs,ih,nn_]
def Tb72:Funs:=Tb71.add 39 [y15,.str] (pu2 y15 .str Q232 (fun _ r K=>K [.dat y5 r.1 [[1]],.dat (.pair (.int .i64) (.pair (.int .i64) .unit)) r.2 []] none))
theorem o72:Okt Tryz.prog Tb72:=st2 zvj Tryz.f39 (fun R kk x0 x1 K=>zpd x0 x1 (fun a0 a1=>K [.dat y5 a0 [[1]],.dat (.pair (.int .i64) (.pair (.int .i64) .unit)) a1 []] none) (zpc R kk kk (z13l R kk K))) o71 (ek _ _ _ _) Tryz.func39 (by kernel_rfl) rfl (fun _ _ _ _ _ _ h=>h _ _) (fun _ _ _ _ _=>by kernel_rfl) fun R kk e x0 x1 K=>by
 simp only[Q232,zpd,z13m,z13n,z1rs (hF:=e),z1kv,z1kw,nn_,←e]
def z20g:Env:=e0 [.str]
def Tb73:Funs:=Tb72.add 92 [.str] (pu1 .str Q190 (fun _ r K=>K [tS r.1,tB r.2] none))
theorem o73:Okt Tryz.prog Tb73:=st1 z20g Tryz.f92 (fun R kk x0 K=>znz x0 (fun a0 a1=>K [tS a0,tB a1] none)) o72 (ek _ _ _ _) Tryz.func92 (by kernel_rfl) rfl (fun _ _ _ _ _ _ h=>h _ _) (fun _ _ _ _=>by kernel_rfl) fun R kk e x0 K=>by
 simp only[Q190,znz,nn_]
def zv2:Env:=tab.env (fun i=>bif Nat.beq i 2 then [1,9,10,11] else []) (fun i=>bif Nat.beq i 2 then [4,5] else []) [] [y5,(.int .i64)]
def znr(a:Int)(b:Zt13)(c d:Int):Option R:=loopR (ev zv2 (Tb73 R) kk (sub [1,0,1,0,0] (cd Tryz.f93))) [1,9,10,11] [4,5] k ⟨uS 1 ([tI a]::uS 7 ([.dat (.sl 90 (.pair (.int .i64) (.pair .str .unit))) b []]::[tI c]::[tI d]::uS 10 [])),nS 23 []⟩ J
def zgw(a:ByteArray)(b:Bool):State:=⟨uS 4 ([tS a]::[tB b]::uS 16 []),nS 23 []⟩
def zgx:State:=⟨uS 22 [],nS 23 []⟩
def z129:KX R:=(zk 0 (kSeq zv2 (Tb73 R) kk (sub [1,1] (cd Tryz.f93)) (kFin zv2 Tryz.f93.results.toList none K)))
theorem z1wj(a:Int)(b:Zt13)(c d:Int):znr R kk (k+1) J a b c d=
 z12a a b c d (fun a0 a1=>J .ret (zgw a0 a1)) (znr R kk k J) (J (.exit 0) (zgx)):=by kernel_rfl
theorem z1k3(a:ByteArray)(b:Bool):z129 R kk K .ret (zgw a b)=
 z12b a b (fun a0 a1=>K [tS a0,tB a1] none):=by kernel_rfl
theorem z1k4:z129 R kk K (.exit 0) (zgx)=
 z12c (fun a0 a1=>K [tS a0,tB a1] none):=by kernel_rfl
theorem z1r8{kk:Nat}(hF:kk=FUEL)(no_1:Int)(t9:Zt13)(t10 t11:Int):znr R kk k J no_1 t9 t10 t11=(zcd k no_1 t9 t10 t11).bind fun e=>(Sum.elim (fun(we:Zt5)=>J .ret (zgw we.1 we.2)) (fun(we:Unit)=>J (.exit 0) (zgx)) e):=by
 induction k generalizing no_1 t9 t10 t11 with
 |zero=>rfl
 |succ k ih=>
  rw[z1wj]
  simp only[zcd,z12a,ih,nn_]
def Tb74:Funs:=Tb73.add 93 [y5,(.int .i64)] (pu2 y5 (.int .i64) Q184 (fun _ r K=>K [tS r.1,tB r.2] none))
theorem o74:Okt Tryz.prog Tb74:=st2 zv2 Tryz.f93 (fun R kk x0 x1 K=>zns x0 x1 (znr R kk kk (z129 R kk K))) o73 (ek _ _ _ _) Tryz.func93 (by kernel_rfl) rfl (fun _ _ _ _ _ _ h=>h _ _) (fun _ _ _ _ _=>by kernel_rfl) fun R kk e x0 x1 K=>by
 simp only[Q184,zns,z12b,z12c,z1r8 (hF:=e),z1k3,z1k4,nn_,←e]
def zv4:Env:=tab.env (fun i=>bif Nat.beq i 3 then [1,4,5,12,13,14] else []) (fun i=>bif Nat.beq i 3 then [4,5] else []) [4] [y5,(.int .i64)]
def znw(a:Int)(b:Zt13)(c d:Int)(e f:Zt19):Option R:=loopR (ev zv4 (Tb74 R) kk (sub [1,1,0,1,0,0] (cd Tryz.f149))) [1,4,5,12,13,14] [4,5] k ⟨uS 1 ([tI a]::uS 2 ([.ptr 5 y5 []]::[.ptr 6 y5 []]::uS 6 ([.dat (.sl 90 (.pair (.int .i64) (.pair .str .unit))) b []]::[tI c]::[tI d]::uS 15 []))),nS 5 ((some ⟨y5,e,[[1]]⟩)::(some ⟨y5,f,[[1]]⟩)::nS 24 [])⟩ J
def zgz(a b:Zt19):State:=⟨uS 4 ([.ptr 5 y5 []]::[.ptr 6 y5 []]::uS 24 []),nS 5 ((some ⟨y5,a,[[1]]⟩)::(some ⟨y5,b,[[1]]⟩)::nS 24 [])⟩
def z1ez:KX R:=(zk 0 (kSeq zv4 (Tb74 R) kk (sub [1,1,1] (cd Tryz.f149)) (kFin zv4 Tryz.f149.results.toList none K)))
theorem z1wl(a:Int)(b:Zt13)(c d:Int)(e f:Zt19):znw R kk (k+1) J a b c d e f=
 z12g a b c d e f (znw R kk k J) (fun a0 a1=>J (.exit 0) (zgz a0 a1)):=by kernel_rfl
theorem z1k6(a b:Zt19):z1ez R kk K (.exit 0) (zgz a b)=
 z12h a b (fun a0=>K [.dat y5 a0 [[1]]] none):=by kernel_rfl
theorem z1ra{kk:Nat}(hF:kk=FUEL)(no_1:Int)(t12:Zt13)(t13 t14:Int)(bt4 bt5:Zt19):znw R kk k J no_1 t12 t13 t14 bt4 bt5=(zcf k no_1 t12 t13 t14 bt4 bt5).bind fun e=>J (.exit 0) (zgz e.1 e.2):=by
 induction k generalizing no_1 t12 t13 t14 bt4 bt5 with
 |zero=>rfl
 |succ k ih=>
  rw[z1wl]
  simp only[zcf,z12g,ih,nn_]
def Tb75:Funs:=Tb74.add 149 [y5,(.int .i64)] (pu2 y5 (.int .i64) Q188 (fun _ r K=>K [.dat y5 r [[1]]] none))
theorem o75:Okt Tryz.prog Tb75:=st2 zv4 Tryz.f149 (fun R kk x0 x1 K=>znx x0 x1 (znw R kk kk (z1ez R kk K))) o74 (ek _ _ _ _) Tryz.func149 (by kernel_rfl) rfl (fun _ _ _ _ _ _ h=>h _ _) (fun _ _ _ _ _=>by kernel_rfl) fun R kk e x0 x1 K=>by
 simp only[Q188,znx,z12h,z1ra (hF:=e),z1k6,nn_,←e]
def z20e:Env:=e0 [(.pair (.int .i64) (.pair .str .unit)),.unit]
def Tb76:Funs:=Tb75.add 151 [(.pair (.int .i64) (.pair .str .unit)),.unit] (pz (.pair (.int .i64) (.pair .str .unit)) (.int .i64) (.int .i64) [] Q187 (fun _ r K=>K [tB r.1] (some ⟨(.int .i64),r.2,[]⟩)))
theorem o76:Okt Tryz.prog Tb76:=sz z20e Tryz.f151 (fun R kk x0 x1 K=>z12f x0 x1 (fun a0 a1=>K [tB a0] (some ⟨(.int .i64),a1,[]⟩))) o75 (ek _ _ _ _) Tryz.func151 (by kernel_rfl) rfl (fun _ _ _ _ _ _ h=>h _ _) (fun _ _ _ _ _=>by kernel_rfl) fun R kk e x0 x1 K=>by
 simp only[Q187,z12f,nn_]
def zvf:Env:=tab.env (fun i=>bif Nat.beq i 2 then [0,1,7,8] else []) (fun i=>bif Nat.beq i 2 then [4] else []) [] [(.sl 90 (.pair (.int .i64) (.pair .str .unit))),.unit]
def zp4(a:Zt13)(b c d:Int):Option R:=loopR (ev zvf (Tb76 R) kk (sub [1,0,1,0,0] (cd Tryz.f150))) [0,1,7,8] [4] k ⟨[.dat (.sl 90 (.pair (.int .i64) (.pair .str .unit))) a []]::[.ptr 0 (.spc (.clo 151) (.int .i64) .unit) []]::uS 5 ([tI b]::[tI c]::uS 10 []),(some ⟨(.int .i64),d,[]⟩)::nS 19 []⟩ J
def zhl(a b:Int):State:=⟨uS 4 ([tI a]::uS 14 []),(some ⟨(.int .i64),b,[]⟩)::nS 19 []⟩
def zhm(a:Int):State:=⟨uS 19 [],(some ⟨(.int .i64),a,[]⟩)::nS 19 []⟩
def z13d(a:Int):KX R:=(zk 0 (kSeq zvf (Tb76 R) kk (sub [1,1] (cd Tryz.f150)) (kFin zvf Tryz.f150.results.toList (some ⟨(.int .i64),a,[]⟩) K)))
theorem z1wz(a:Zt13)(b c d:Int):zp4 R kk (k+1) J a b c d=
 z13e a b c d (fun a0 a1=>J .ret (zhl a0 a1)) (zp4 R kk k J) (fun a0=>J (.exit 0) (zhm a0)):=by kernel_rfl
theorem z1kr(a b c:Int):z13d R kk K a .ret (zhl b c)=
 z13f b c (fun a0 a1=>K [tI a0] (some ⟨(.int .i64),a1,[]⟩)):=by kernel_rfl
theorem z1ks(a b:Int):z13d R kk K a (.exit 0) (zhm b)=
 z13g b (fun a0 a1=>K [tI a0] (some ⟨(.int .i64),a1,[]⟩)):=by kernel_rfl
theorem z1ro{kk:Nat}(hF:kk=FUEL)(a_0:Zt13)(t7 t8 recv:Int):zp4 R kk k J a_0 t7 t8 recv=(zcq k a_0 t7 t8 recv).bind fun e=>(Sum.elim (fun(we:(Int×Int))=>J .ret (zhl we.1 we.2)) (fun(we:Int)=>J (.exit 0) (zhm we)) e):=by
 induction k generalizing a_0 t7 t8 recv with
 |zero=>rfl
 |succ k ih=>
  rw[z1wz]
  simp only[zcq,z13e,ih,nn_]
def Tb77:Funs:=Tb76.add 150 [(.sl 90 (.pair (.int .i64) (.pair .str .unit))),.unit] (pz (.sl 90 (.pair (.int .i64) (.pair .str .unit))) (.spc (.clo 151) (.int .i64) .unit) (.int .i64) [] Q226 (fun _ r K=>K [tI r.1] (some ⟨(.int .i64),r.2,[]⟩)))
theorem o77:Okt Tryz.prog Tb77:=sz zvf Tryz.f150 (fun R kk x0 x1 K=>zp5 x0 x1 (zp4 R kk kk (z13d R kk K x1))) o76 (ek _ _ _ _) Tryz.func150 (by kernel_rfl) rfl (fun _ _ _ _ _ _ h=>h _ _) (fun _ _ _ _ _=>by kernel_rfl) fun R kk e x0 x1 K=>by
 simp only[Q226,zp5,z13f,z13g,z1ro (hF:=e),z1kr,z1ks,nn_,←e]
def z20d:Env:={tab.env (fun _=>[]) (fun _=>[]) [6] [y5,(.int .i64),.str] with fz:=fun i=>bif Nat.beq i 9 then some (9,47) else none}
def Tb78:Funs:=Tb77.add 94 [y5,(.int .i64),.str] (pu3 y5 (.int .i64) .str Q186 (fun _ r K=>K [.dat y5 r []] none))
theorem o78:Okt Tryz.prog Tb78:=st3 z20d Tryz.f94 (fun R kk x0 x1 x2 K=>znv x0 x1 x2 (fun a0=>K [.dat y5 a0 []] none)) o77 ((ek _ _ _ _).fz _) Tryz.func94 (by kernel_rfl) rfl (fun _ _ _ _ _ _ h=>h _ _) (fun _ _ _ _ _ _=>by kernel_rfl) fun R kk e x0 x1 x2 K=>by
 simp only[Q186,znv,nn_]
def z9q:Env:=tab.env (fun i=>bif Nat.beq i 2 then [2,10,11,12] else bif Nat.beq i 5 then [2,6,10,11,12,17,18,19] else []) (fun i=>bif Nat.beq i 2 then [4] else bif Nat.beq i 5 then [2,4,10,11,12] else []) [] [y18,(.int .i64)]
def zoe(a:(List Int))(b c:Int)(d:Zt28):Option R:=loopR (ev z9q (Tb78 R) kk (sub [1,0,1,0,0] (cd Tryz.f95))) [2,10,11,12] [4] k ⟨uS 2 ([.ptr 3 y18 []]::uS 7 ([.dat (.sl 38 (.int .i64)) a [[]]]::[tI b]::[tI c]::uS 18 [])),nS 3 ((some ⟨y18,d,[]⟩)::nS 28 [])⟩ J
def zh6:State:=⟨uS 31 [],nS 32 []⟩
def zh7(a:ByteArray):State:=⟨uS 4 ([tS a]::uS 26 []),nS 32 []⟩
def z12r:KX R:=(zk 0 (kSeq z9q (Tb78 R) kk (sub [1,1] (cd Tryz.f95)) (kFin z9q Tryz.f95.results.toList none K)))
def zof(a:Int)(b:(List Int))(c d:Int)(e:Zt13)(f g:Int)(h:Zt28):Option R:=loopR (ev z9q (Tb78 R) kk (sub [1,0,1,0,0,1,1,0,0,1,1,0,0] (cd Tryz.f95))) [2,6,10,11,12,17,18,19] [2,4,10,11,12] k ⟨uS 2 ([.ptr 3 y18 []]::uS 3 ([tI a]::uS 3 ([.dat (.sl 38 (.int .i64)) b [[]]]::[tI c]::[tI d]::uS 4 ([.dat (.sl 96 (.pair (.int .i64) (.pair .str .unit))) e []]::[tI f]::[tI g]::uS 11 [])))),nS 3 ((some ⟨y18,h,[]⟩)::nS 28 [])⟩ J
def zh8(a:ByteArray)(b:(List Int))(c d:Int)(e:Zt28):State:=⟨uS 2 ([.ptr 3 y18 []]::uS 1 ([tS a]::uS 5 ([.dat (.sl 38 (.int .i64)) b [[]]]::[tI c]::[tI d]::uS 18 []))),nS 3 ((some ⟨y18,e,[]⟩)::nS 28 [])⟩
def zh9(a:(List Int))(b c:Int)(d:Zt28):State:=⟨uS 2 ([.ptr 3 y18 []]::uS 7 ([.dat (.sl 38 (.int .i64)) a [[]]]::[tI b]::[tI c]::uS 18 [])),nS 3 ((some ⟨y18,d,[]⟩)::nS 28 [])⟩
def z12s:KX R:=(zk 2 (zk 1 (kSeq z9q (Tb78 R) kk (sub [1,0,1,0,0,1,1,1] (cd Tryz.f95)) (kLoop (ev z9q (Tb78 R) kk (sub [1,0,1,0,0] (cd Tryz.f95))) [2,10,11,12] [4] k J))))
theorem z1wr(a:(List Int))(b c:Int)(d:Zt28):zoe R kk (k+1) J a b c d=
 zcl a b c d (zof R kk kk (z12s R kk k J)) (J (.exit 0) (zh6)):=by kernel_rfl
theorem z1kd:z12r R kk K (.exit 0) (zh6)=
 z12t (fun a0=>K [tS a0] none):=by kernel_rfl
theorem z1ws(a:Int)(b:(List Int))(c d:Int)(e:Zt13)(f g:Int)(h:Zt28):zof R kk (k+1) J a b c d e f g h=
 z12u a b c d e f g h (fun a0 a1 a2 a3 a4=>J .ret (zh8 a0 a1 a2 a3 a4)) (zof R kk k J) (fun a0 a1 a2 a3=>J (.exit 2) (zh9 a0 a1 a2 a3)):=by kernel_rfl
theorem z1kf(a:ByteArray)(b:(List Int))(c d:Int)(e:Zt28):z12s R kk k J .ret (zh8 a b c d e)=
 z12v a b c d e (fun a0=>J .ret (zh7 a0)):=by kernel_rfl
theorem z1kg(a:(List Int))(b c:Int)(d:Zt28):z12s R kk k J (.exit 2) (zh9 a b c d)=
 zoh a b c d (zoe R kk k J):=by kernel_rfl
theorem z1ke(a:ByteArray):z12r R kk K .ret (zh7 a)=
 z12w a (fun a0=>K [tS a0] none):=by kernel_rfl
theorem z1rg{kk:Nat}(hF:kk=FUEL)(t6:Int)(t10:(List Int))(t11 t12:Int)(t17:Zt13)(t18 t19:Int)(bt2:Zt28):zof R kk k J t6 t10 t11 t12 t17 t18 t19 bt2=(z95 k t6 t10 t11 t12 t17 t18 t19 bt2).bind fun e=>(Sum.elim (fun(we:(ByteArray×(List Int)×Int×Int×Zt28))=>J .ret (zh8 we.1 we.2.1 we.2.2.1 we.2.2.2.1 we.2.2.2.2)) (fun(we:((List Int)×Int×Int×Zt28))=>J (.exit 2) (zh9 we.1 we.2.1 we.2.2.1 we.2.2.2)) e):=by
 induction k generalizing t6 t10 t11 t12 t17 t18 t19 bt2 with
 |zero=>rfl
 |succ k ih=>
  rw[z1ws]
  simp only[z95,z12u,ih,nn_]
theorem z1rf{kk:Nat}(hF:kk=FUEL)(t10:(List Int))(t11 t12:Int)(bt2:Zt28):zoe R kk k J t10 t11 t12 bt2=(z5y k t10 t11 t12 bt2).bind fun e=>(Sum.elim (fun(we:Unit)=>J (.exit 0) (zh6)) (fun(we:ByteArray)=>J .ret (zh7 we)) e):=by
 induction k generalizing t10 t11 t12 bt2 with
 |zero=>rfl
 |succ k ih=>
  rw[z1wr]
  simp only[z5y,zcl,z12v,zoh,ih,z1rg (hF:=hF),z1kf,z1kg,nn_,←hF]
def Tb79:Funs:=Tb78.add 95 [y18,(.int .i64)] (pu2 y18 (.int .i64) Q200 (fun _ r K=>K [tS r] none))
theorem o79:Okt Tryz.prog Tb79:=st2 z9q Tryz.f95 (fun R kk x0 x1 K=>zog x0 x1 (zoe R kk kk (z12r R kk K))) o78 (ek _ _ _ _) Tryz.func95 (by kernel_rfl) rfl (fun _ _ _ _ _ _ h=>h _ _) (fun _ _ _ _ _=>by kernel_rfl) fun R kk e x0 x1 K=>by
 simp only[Q200,zog,z12t,z12w,z1rf (hF:=e),z1kd,z1ke,nn_,←e]
def zv6:Env:={{tab.env (fun i=>bif Nat.beq i 6 then [3,4,5,6,10,27,28,29] else []) (fun i=>bif Nat.beq i 6 then [3,5,6,10] else []) [6] [y18,y5,(.pair (.int .i64) (.pair (.int .i64) .unit))] with dr:=fun i=>bif Nat.beq i 6 then [11] else []} with ro:=true}
def zo6(a:(List Int))(b c:Int)(d:Zt28)(e:Zt19)(f:Zt6)(g h:Zt19):Option R:=loopR (ev zv6 (Tb79 R) kk (sub [1,1,1,1,0,1,0,0] (cd Tryz.f37))) [3,4,5,6,10,27,28,29] [3,5,6,10] k ⟨uS 3 ([.ptr 4 y18 []]::[.ptr 5 y5 []]::[.ptr 6 (.pair (.int .i64) (.pair (.int .i64) .unit)) []]::[.ptr 7 y5 []]::uS 3 ([.ptr 11 y5 []]::uS 16 ([.dat (.sl 3 (.int .i64)) a []]::[tI b]::[tI c]::uS 21 []))),nS 4 ((some ⟨y18,d,[]⟩)::(some ⟨y5,e,[]⟩)::(some ⟨(.pair (.int .i64) (.pair (.int .i64) .unit)),f,[]⟩)::(some ⟨y5,g,[[1]]⟩)::nS 3 ((some ⟨y5,h,[]⟩)::nS 40 []))⟩ J
def zh1(a:Zt28)(b:Zt6)(c d:Zt19):State:=⟨uS 3 ([.ptr 4 y18 []]::uS 1 ([.ptr 6 (.pair (.int .i64) (.pair (.int .i64) .unit)) []]::[.ptr 7 y5 []]::uS 3 ([.ptr 11 y5 []]::uS 40 []))),nS 4 ((some ⟨y18,a,[]⟩)::nS 1 ((some ⟨(.pair (.int .i64) (.pair (.int .i64) .unit)),b,[]⟩)::(some ⟨y5,c,[[1]]⟩)::nS 3 ((some ⟨y5,d,[]⟩)::nS 40 [])))⟩
def z1f1:KX R:=(zk 0 (kSeq zv6 (Tb79 R) kk (sub [1,1,1,1,1] (cd Tryz.f37)) (kFin zv6 Tryz.f37.results.toList none K)))
theorem z1wn(a:(List Int))(b c:Int)(d:Zt28)(e:Zt19)(f:Zt6)(g h:Zt19):zo6 R kk (k+1) J a b c d e f g h=
 z12l a b c d e f g h (zo6 R kk k J) (fun a0 a1 a2 a3=>J (.exit 0) (zh1 a0 a1 a2 a3)):=by kernel_rfl
theorem z1k8(a:Zt28)(b:Zt6)(c d:Zt19):z1f1 R kk K (.exit 0) (zh1 a b c d)=
 zo8 a b c d (fun a0 a1=>K [.dat y5 a0 [],tB a1] none):=by kernel_rfl
theorem z1rc{kk:Nat}(hF:kk=FUEL)(t27:(List Int))(t28 t29:Int)(bt3:Zt28)(bt4:Zt19)(bt5:Zt6)(bt6 bt10:Zt19):zo6 R kk k J t27 t28 t29 bt3 bt4 bt5 bt6 bt10=(zci k t27 t28 t29 bt3 bt4 bt5 bt6 bt10).bind fun e=>J (.exit 0) (zh1 e.1 e.2.1 e.2.2.1 e.2.2.2):=by
 induction k generalizing t27 t28 t29 bt3 bt4 bt5 bt6 bt10 with
 |zero=>rfl
 |succ k ih=>
  rw[z1wn]
  simp only[zci,z12l,ih,nn_]
def Tb80:Funs:=Tb79.add 37 [y18,y5,(.pair (.int .i64) (.pair (.int .i64) .unit))] (pu3 y18 y5 (.pair (.int .i64) (.pair (.int .i64) .unit)) Q198 (fun _ r K=>K [.dat y5 r.1 [],tB r.2] none))
theorem o80:Okt Tryz.prog Tb80:=st3 zv6 Tryz.f37 (fun R kk x0 x1 x2 K=>zo7 x0 x1 x2 (fun a0 a1=>K [.dat y5 a0 [],tB a1] none) (zo6 R kk kk (z1f1 R kk K))) o79 (((ek _ _ _ _).dr _).ro _) Tryz.func37 (by kernel_rfl) rfl (fun _ _ _ _ _ _ h=>h _ _) (fun _ _ _ _ _ _=>by kernel_rfl) fun R kk e x0 x1 x2 K=>by
 simp only[Q198,zo7,zo8,z1rc (hF:=e),z1k8,nn_,←e]
def zv1:Env:=tab.env (fun i=>bif Nat.beq i 9 then [2,4,9,39,40,41] else []) (fun i=>bif Nat.beq i 9 then [4] else []) [4] [y15,y5]
def znp(a:Int)(b:Zt13)(c d:Int)(e:Zt20)(f:Zt6):Option R:=loopR (ev zv1 (Tb80 R) kk (sub [1,1,1,1,0,1,0,0] (cd Tryz.f96))) [2,4,9,39,40,41] [4] k ⟨uS 2 ([.ptr 3 y15 []]::uS 1 ([.ptr 5 (.pair (.int .i64) (.pair (.int .i64) .unit)) []]::uS 4 ([tI a]::uS 29 ([.dat (.sl 90 (.pair (.int .i64) (.pair .str .unit))) b []]::[tI c]::[tI d]::uS 36 [])))),nS 3 ((some ⟨y15,e,[]⟩)::nS 1 ((some ⟨(.pair (.int .i64) (.pair (.int .i64) .unit)),f,[]⟩)::nS 73 []))⟩ J
def zgu(a:Zt6):State:=⟨uS 4 ([.ptr 5 (.pair (.int .i64) (.pair (.int .i64) .unit)) []]::uS 73 []),nS 5 ((some ⟨(.pair (.int .i64) (.pair (.int .i64) .unit)),a,[]⟩)::nS 73 [])⟩
def zgv(a:Zt6):State:=⟨uS 4 ([.ptr 5 (.pair (.int .i64) (.pair (.int .i64) .unit)) []]::uS 73 []),nS 5 ((some ⟨(.pair (.int .i64) (.pair (.int .i64) .unit)),a,[]⟩)::nS 73 [])⟩
def z124:KX R:=(zk 0 (kSeq zv1 (Tb80 R) kk (sub [1,1,1,1,1] (cd Tryz.f96)) (kFin zv1 Tryz.f96.results.toList none K)))
theorem z1wi(a:Int)(b:Zt13)(c d:Int)(e:Zt20)(f:Zt6):znp R kk (k+1) J a b c d e f=
 z125 a b c d e f (fun a0=>J .ret (zgu a0)) (znp R kk k J) (fun a0=>J (.exit 0) (zgv a0)):=by kernel_rfl
theorem z1k1(a:Zt6):z124 R kk K .ret (zgu a)=
 z126 a (fun a0=>K [.dat (.pair (.int .i64) (.pair (.int .i64) .unit)) a0 []] none):=by kernel_rfl
theorem z1k2(a:Zt6):z124 R kk K (.exit 0) (zgv a)=
 z128 a (fun a0=>K [.dat (.pair (.int .i64) (.pair (.int .i64) .unit)) a0 []] none):=by kernel_rfl
theorem z1r7{kk:Nat}(hF:kk=FUEL)(t9:Int)(t39:Zt13)(t40 t41:Int)(bt2:Zt20)(bt4:Zt6):znp R kk k J t9 t39 t40 t41 bt2 bt4=(zcc k t9 t39 t40 t41 bt2 bt4).bind fun e=>(Sum.elim (fun(we:Zt6)=>J .ret (zgu we)) (fun(we:Zt6)=>J (.exit 0) (zgv we)) e):=by
 induction k generalizing t9 t39 t40 t41 bt2 bt4 with
 |zero=>rfl
 |succ k ih=>
  rw[z1wi]
  simp only[zcc,z125,ih,nn_]
def Tb81:Funs:=Tb80.add 96 [y15,y5] (pu2 y15 y5 Q183 (fun _ r K=>K [.dat (.pair (.int .i64) (.pair (.int .i64) .unit)) r []] none))
theorem o81:Okt Tryz.prog Tb81:=st2 zv1 Tryz.f96 (fun R kk x0 x1 K=>znq x0 x1 (fun a0=>K [.dat (.pair (.int .i64) (.pair (.int .i64) .unit)) a0 []] none) (znp R kk kk (z124 R kk K))) o80 (ek _ _ _ _) Tryz.func96 (by kernel_rfl) rfl (fun _ _ _ _ _ _ h=>h _ _) (fun _ _ _ _ _=>by kernel_rfl) fun R kk e x0 x1 K=>by
 simp only[Q183,znq,z126,z128,z1r7 (hF:=e),z1k1,z1k2,nn_,←e]
def Q1_E:Env:=tab.env (fun i=>bif Nat.beq i 7 then [0,4,5] else []) (fun i=>bif Nat.beq i 7 then [4] else []) [] [.str]
def Q1_L0(a:ByteArray)(b:(List Int))(c:Int):Option R:=loopR (ev Q1_E (Tb81 R) kk (sub [1,1,1,1,0,1,0,0] (cd Tryz.f154))) [0,4,5] [4] k ⟨[tS a]::uS 3 ([.dat (.sl 5 (.int .u8)) b [[]]]::[tI c]::uS 40 []),nS 47 []⟩ J
def z12q(a:(List Int)):State:=⟨uS 4 ([.dat (.sl 5 (.int .u8)) a [[]]]::uS 41 []),nS 47 []⟩
def Q1_K0:KX R:=(zk 0 (kSeq Q1_E (Tb81 R) kk (sub [1,1,1,1,1] (cd Tryz.f154)) (kFin Q1_E Tryz.f154.results.toList none K)))
theorem Q1_d0(a:ByteArray)(b:(List Int))(c:Int):Q1_L0 R kk (k+1) J a b c=
 Q1_s1 a b c (Q1_L0 R kk k J) (fun a0=>J (.exit 0) (z12q a0)):=by kernel_rfl
theorem z1wq(a:(List Int)):Q1_K0 R kk K (.exit 0) (z12q a)=
 Q1_s2 a (fun a0 a1=>K [tS a0,tB a1] none):=by kernel_rfl
theorem z20n{kk:Nat}(hF:kk=FUEL)(s_0:ByteArray)(t4:(List Int))(t5:Int):Q1_L0 R kk k J s_0 t4 t5=(Q1_l0 k s_0 t4 t5).bind fun e=>J (.exit 0) (z12q e):=by
 induction k generalizing s_0 t4 t5 with
 |zero=>rfl
 |succ k ih=>
  rw[Q1_d0]
  simp only[Q1_l0,Q1_s1,ih,nn_]
def Tb82:Funs:=Tb81.add 154 [.str] (pu1 .str Q1 (fun _ r K=>K [tS r.1,tB r.2] none))
theorem o82:Okt Tryz.prog Tb82:=st1 Q1_E Tryz.f154 (fun R kk x0 K=>Q1_s0 x0 (fun a0 a1=>K [tS a0,tB a1] none) (fun a0 a1 a2=>Q1_L0 R kk kk (Q1_K0 R kk K) a0 a1 a2)) o81 (ek _ _ _ _) Tryz.func154 (by kernel_rfl) rfl (fun _ _ _ _ _ _ h=>h _ _) (fun _ _ _ _=>by kernel_rfl) fun R kk e x0 K=>by
 simp only[Q1,z1gi,Q1_s2,z20n (hF:=e),z1wq,nn_,←e]
def z21b:Env:=e0 [(.int .i64),.str]
def Tb83:Funs:=Tb82.add 99 [(.int .i64),.str] (pu2 (.int .i64) .str Q250 (fun _ r K=>K [tS r.1,tB r.2] none))
theorem o83:Okt Tryz.prog Tb83:=st2 z21b Tryz.f99 (fun R kk x0 x1 K=>zpw x0 x1 (fun a0 a1=>K [tS a0,tB a1] none)) o82 (ek _ _ _ _) Tryz.func99 (by kernel_rfl) rfl (fun _ _ _ _ _ _ h=>h _ _) (fun _ _ _ _ _=>by kernel_rfl) fun R kk e x0 x1 K=>by
 simp only[Q250,zpw,nn_]
def Tryz.lays166_ren:Go.Shelf.Ren:=⟨fun|166=>98|240=>152|276=>198|n=>n,fun|70=>144|9=>9|3=>3|75=>149|0=>0|72=>147|37=>145|4=>4|164=>246|80=>158|5=>5|20=>20|n=>n,fun n=>n⟩
theorem Tryz.lays166:Go.Proofs.Lays.n166 Go.Proofs.Tryz.prog Tryz.lays166_ren:={
 mixed:=by kernel_rfl,
 f166:=Go.Proofs.Tryz.func98.trans (congrArg some (by kernel_rfl)),
 f240:=Go.Proofs.Tryz.func152.trans (congrArg some (by kernel_rfl)),
 f276:=Go.Proofs.Tryz.func198.trans (congrArg some (by kernel_rfl)),
 t0:=Go.Proofs.Tryz.underlying0,
 a0:=Go.Proofs.Tryz.isAgg0,
 z0:=Go.Proofs.Tryz.sizeOf0,
 v0:=Go.Proofs.Tryz.zeroValue0,
 t3:=Go.Proofs.Tryz.underlying3,
 a3:=Go.Proofs.Tryz.isAgg3,
 z3:=Go.Proofs.Tryz.sizeOf3,
 v3:=Go.Proofs.Tryz.zeroValue3,
 t4:=Go.Proofs.Tryz.underlying4,
 a4:=Go.Proofs.Tryz.isAgg4,
 z4:=Go.Proofs.Tryz.sizeOf4,
 v4:=Go.Proofs.Tryz.zeroValue4,
 t9:=Go.Proofs.Tryz.underlying9,
 a9:=Go.Proofs.Tryz.isAgg9,
 z9:=Go.Proofs.Tryz.sizeOf9,
 v9:=Go.Proofs.Tryz.zeroValue9,
 t20:=Go.Proofs.Tryz.underlying20,
 a20:=Go.Proofs.Tryz.isAgg20,
 z20:=Go.Proofs.Tryz.sizeOf20,
 v20:=Go.Proofs.Tryz.zeroValue20,
 t37:=Go.Proofs.Tryz.underlying145,
 a37:=Go.Proofs.Tryz.isAgg145,
 z37:=Go.Proofs.Tryz.sizeOf145,
 v37:=Go.Proofs.Tryz.zeroValue145,
 t70:=Go.Proofs.Tryz.underlying144,
 a70:=Go.Proofs.Tryz.isAgg144,
 z70:=Go.Proofs.Tryz.sizeOf144,
 v70:=Go.Proofs.Tryz.zeroValue144,
 t72:=Go.Proofs.Tryz.underlying147,
 a72:=Go.Proofs.Tryz.isAgg147,
 z72:=Go.Proofs.Tryz.sizeOf147,
 v72:=Go.Proofs.Tryz.zeroValue147,
 t75:=Go.Proofs.Tryz.underlying149,
 a75:=Go.Proofs.Tryz.isAgg149,
 z75:=Go.Proofs.Tryz.sizeOf149,
 v75:=Go.Proofs.Tryz.zeroValue149,
 t164:=Go.Proofs.Tryz.underlying246,
 a164:=Go.Proofs.Tryz.isAgg246,
 z164:=Go.Proofs.Tryz.sizeOf246,
 v164:=Go.Proofs.Tryz.zeroValue246}
theorem Tryz.extra166:Go.Proofs.Builder.Extra Go.Proofs.Tryz.prog Tryz.lays166_ren:={
 sizeBuilder:=by kernel_rfl,
 liesBuilder:=by kernel_rfl,
 t5:=Go.Proofs.Tryz.underlying5,
 a5:=Go.Proofs.Tryz.isAgg5,
 z5:=Go.Proofs.Tryz.sizeOf5,
 v5:=Go.Proofs.Tryz.zeroValue5,
 infoByte:=by kernel_rfl,
 cellsByte:=by kernel_rfl,
 sizeByte:=by kernel_rfl,
 neB5:=by decide}
noncomputable abbrev z6n:Code:=Tryz.f98.body.getD .skip
theorem z68:Ent Tryz.prog 98:=⟨Tryz.f98,z6n,Tryz.func98,by kernel_rfl,by kernel_rfl⟩
def Tb84:Funs:=Tb83.add 98 [] (zj4 147 5)
theorem o84:Okt Tryz.prog Tb84:=⟨o83.mix,zqd o83.nat (z228 _ _),z1mb o83.owes z68 Tryz.lays166 Tryz.extra166 rfl rfl rfl⟩
def z21a:Env:=e0 [.str,.unit]
def Tb85:Funs:=Tb84.add 97 [.str,.unit] (pz .str (.spc (.bld 147 5) .unit .unit) (.spc (.bld 147 5) .unit .unit) [[]] Q249 (fun _ r K=>K [] (some ⟨(.spc (.bld 147 5) .unit .unit),r,[[]]⟩)))
theorem o85:Okt Tryz.prog Tb85:=sz z21a Tryz.f97 (fun R kk x0 x1 K=>zpv x0 x1 (fun a0=>K [] (some ⟨(.spc (.bld 147 5) .unit .unit),a0,[[]]⟩))) o84 (ek _ _ _ _) Tryz.func97 (by kernel_rfl) rfl (fun _ _ _ _ _ _ h=>h _ _) (fun _ _ _ _ _=>by kernel_rfl) fun R kk e x0 x1 K=>by
 simp only[Q249,zpv,nn_]
def zv3:Env:=tab.env (fun i=>bif Nat.beq i 3 then [2,3,7,8,9] else []) (fun i=>bif Nat.beq i 3 then [2,3] else []) [2] [y5]
def znt(a:Zt13)(b c:Int)(d e:Zt6):Option R:=loopR (ev zv3 (Tb85 R) kk (sub [1,1,0,1,0,0] (cd Tryz.f101))) [2,3,7,8,9] [2,3] k ⟨uS 2 ([.ptr 3 (.pair (.int .u64) (.pair (.int .u64) .unit)) []]::[.ptr 4 (.pair (.int .u64) (.pair (.int .u64) .unit)) []]::uS 3 ([.dat (.sl 90 (.pair (.int .i64) (.pair .str .unit))) a []]::[tI b]::[tI c]::uS 9 [])),nS 3 ((some ⟨(.pair (.int .u64) (.pair (.int .u64) .unit)),d,[]⟩)::(some ⟨(.pair (.int .u64) (.pair (.int .u64) .unit)),e,[]⟩)::nS 15 [])⟩ J
def zgy(a b:Zt6):State:=⟨uS 2 ([.ptr 3 (.pair (.int .u64) (.pair (.int .u64) .unit)) []]::[.ptr 4 (.pair (.int .u64) (.pair (.int .u64) .unit)) []]::uS 15 []),nS 3 ((some ⟨(.pair (.int .u64) (.pair (.int .u64) .unit)),a,[]⟩)::(some ⟨(.pair (.int .u64) (.pair (.int .u64) .unit)),b,[]⟩)::nS 15 [])⟩
def z1ey:KX R:=(zk 0 (kSeq zv3 (Tb85 R) kk (sub [1,1,1] (cd Tryz.f101)) (kFin zv3 Tryz.f101.results.toList none K)))
theorem z1wk(a:Zt13)(b c:Int)(d e:Zt6):znt R kk (k+1) J a b c d e=
 z12d a b c d e (znt R kk k J) (fun a0 a1=>J (.exit 0) (zgy a0 a1)):=by kernel_rfl
theorem z1k5(a b:Zt6):z1ey R kk K (.exit 0) (zgy a b)=
 z12e a b (fun a0=>K [.dat (.pair (.int .u64) (.pair (.int .u64) .unit)) a0 []] none):=by kernel_rfl
theorem z1r9{kk:Nat}(hF:kk=FUEL)(t7:Zt13)(t8 t9:Int)(bt2 bt3:Zt6):znt R kk k J t7 t8 t9 bt2 bt3=(zce k t7 t8 t9 bt2 bt3).bind fun e=>J (.exit 0) (zgy e.1 e.2):=by
 induction k generalizing t7 t8 t9 bt2 bt3 with
 |zero=>rfl
 |succ k ih=>
  rw[z1wk]
  simp only[zce,z12d,ih,nn_]
def Tb86:Funs:=Tb85.add 101 [y5] (pu1 y5 Q185 (fun _ r K=>K [.dat (.pair (.int .u64) (.pair (.int .u64) .unit)) r []] none))
theorem o86:Okt Tryz.prog Tb86:=st1 zv3 Tryz.f101 (fun R kk x0 K=>znu x0 (znt R kk kk (z1ey R kk K))) o85 (ek _ _ _ _) Tryz.func101 (by kernel_rfl) rfl (fun _ _ _ _ _ _ h=>h _ _) (fun _ _ _ _=>by kernel_rfl) fun R kk e x0 K=>by
 simp only[Q185,znu,z12e,z1r9 (hF:=e),z1k5,nn_,←e]
def Q37_E:Env:=e0 [(.pair (.int .u64) (.pair (.int .u64) .unit)),(.int .i64)]
def Tb87:Funs:=Tb86.add 156 [(.pair (.int .u64) (.pair (.int .u64) .unit)),(.int .i64)] (pu2 (.pair (.int .u64) (.pair (.int .u64) .unit)) (.int .i64) Q37 (fun _ r K=>K [tB r] none))
theorem o87:Okt Tryz.prog Tb87:=st2 Q37_E Tryz.f156 (fun R kk x0 x1 K=>zw4 x0 x1 (fun a0=>K [tB a0] none)) o86 (ek _ _ _ _) Tryz.func156 (by kernel_rfl) rfl (fun _ _ _ _ _ _ h=>h _ _) (fun _ _ _ _ _=>by kernel_rfl) fun R kk e x0 x1 K=>by
 simp only[Q37,zw4,nn_]
def Q36_E:Env:=e0 [(.pair (.int .u64) (.pair (.int .u64) .unit))]
def Tb88:Funs:=Tb87.add 157 [(.pair (.int .u64) (.pair (.int .u64) .unit))] (pu1 (.pair (.int .u64) (.pair (.int .u64) .unit)) Q36 (fun _ r K=>K [.dat (.int .u64) r.1 [],.dat (.int .u64) r.2 []] none))
theorem o88:Okt Tryz.prog Tb88:=st1 Q36_E Tryz.f157 (fun R kk x0 K=>z19d x0 (fun a0 a1=>K [.dat (.int .u64) a0 [],.dat (.int .u64) a1 []] none)) o87 (ek _ _ _ _) Tryz.func157 (by kernel_rfl) rfl (fun _ _ _ _ _ _ h=>h _ _) (fun _ _ _ _=>by kernel_rfl) fun R kk e x0 K=>by
 simp only[Q36,z19d,nn_]
def Q8_E:Env:=tab.env (fun i=>bif Nat.beq i 3 then [0,2,3,5] else []) (fun i=>bif Nat.beq i 3 then [2,3] else []) [2] [(.int .u64)]
def Q8_L0(a b:Int)(c d:(List Int)):Option R:=loopR (ev Q8_E (Tb88 R) kk (sub [1,1,0,1,0,0] (cd Tryz.f158))) [0,2,3,5] [2,3] k ⟨[.dat (.int .u64) a []]::uS 1 ([.ptr 3 (.arr 8 (.int .u8)) []]::[.ptr 4 (.arr 8 (.int .u8)) []]::uS 1 ([tI b]::uS 12 [])),nS 3 ((some ⟨(.arr 8 (.int .u8)),c,[]⟩)::(some ⟨(.arr 8 (.int .u8)),d,[]⟩)::nS 14 [])⟩ J
def z14k(a b:(List Int)):State:=⟨uS 2 ([.ptr 3 (.arr 8 (.int .u8)) []]::[.ptr 4 (.arr 8 (.int .u8)) []]::uS 14 []),nS 3 ((some ⟨(.arr 8 (.int .u8)),a,[]⟩)::(some ⟨(.arr 8 (.int .u8)),b,[]⟩)::nS 14 [])⟩
def Q8_K0:KX R:=(zk 0 (kSeq Q8_E (Tb88 R) kk (sub [1,1,1] (cd Tryz.f158)) (kFin Q8_E Tryz.f158.results.toList none K)))
theorem Q8_d0(a b:Int)(c d:(List Int)):Q8_L0 R kk (k+1) J a b c d=
 Q8_s1 a b c d (Q8_L0 R kk k J) (fun a0 a1=>J (.exit 0) (z14k a0 a1)):=by kernel_rfl
theorem z1xz(a b:(List Int)):Q8_K0 R kk K (.exit 0) (z14k a b)=
 Q8_s2 a b (fun a0=>K [.dat (.arr 8 (.int .u8)) a0 []] none):=by kernel_rfl
theorem z21y{kk:Nat}(hF:kk=FUEL)(x_0 t5:Int)(bt2 bt3:(List Int)):Q8_L0 R kk k J x_0 t5 bt2 bt3=(Q8_l0 k x_0 t5 bt2 bt3).bind fun e=>J (.exit 0) (z14k e.1 e.2):=by
 induction k generalizing x_0 t5 bt2 bt3 with
 |zero=>rfl
 |succ k ih=>
  rw[Q8_d0]
  simp only[Q8_l0,Q8_s1,ih,nn_]
def Tb89:Funs:=Tb88.add 158 [(.int .u64)] (pu1 (.int .u64) Q8 (fun _ r K=>K [.dat (.arr 8 (.int .u8)) r []] none))
theorem o89:Okt Tryz.prog Tb89:=st1 Q8_E Tryz.f158 (fun R kk x0 K=>Q8_s0 x0 (Q8_L0 R kk kk (Q8_K0 R kk K))) o88 (ek _ _ _ _) Tryz.func158 (by kernel_rfl) rfl (fun _ _ _ _ _ _ h=>h _ _) (fun _ _ _ _=>by kernel_rfl) fun R kk e x0 K=>by
 simp only[Q8,Q8_s0,Q8_s2,z21y (hF:=e),z1xz,nn_,←e]
def zuz:Env:=tab.env (fun i=>bif Nat.beq i 3 then [0,3,4] else []) (fun i=>bif Nat.beq i 3 then [3] else []) [] [.str]
def znm(a:ByteArray)(b:(List Int))(c:Int):Option R:=loopR (ev zuz (Tb89 R) kk (sub [1,1,0,1,0,0] (cd Tryz.f159))) [0,3,4] [3] k ⟨[tS a]::uS 2 ([.dat (.sl 5 (.int .u8)) b [[]]]::[tI c]::uS 25 []),nS 31 []⟩ J
def zgt(a:(List Int)):State:=⟨uS 3 ([.dat (.sl 5 (.int .u8)) a [[]]]::uS 26 []),nS 31 []⟩
def z1ex:KX R:=(zk 0 (kSeq zuz (Tb89 R) kk (sub [1,1,1] (cd Tryz.f159)) (kFin zuz Tryz.f159.results.toList none K)))
theorem z1wh(a:ByteArray)(b:(List Int))(c:Int):znm R kk (k+1) J a b c=
 zcb a b c (znm R kk k J) (fun a0=>J (.exit 0) (zgt a0)):=by kernel_rfl
theorem z1k0(a:(List Int)):z1ex R kk K (.exit 0) (zgt a)=
 z122 a (fun a0=>K [tS a0] none):=by kernel_rfl
theorem z1r6{kk:Nat}(hF:kk=FUEL)(s_0:ByteArray)(t3:(List Int))(t4:Int):znm R kk k J s_0 t3 t4=(z7d k s_0 t3 t4).bind fun e=>J (.exit 0) (zgt e):=by
 induction k generalizing s_0 t3 t4 with
 |zero=>rfl
 |succ k ih=>
  rw[z1wh]
  simp only[z7d,zcb,ih,nn_]
def Tb90:Funs:=Tb89.add 159 [.str] (pu1 .str Q171 (fun _ r K=>K [tS r] none))
theorem o90:Okt Tryz.prog Tb90:=st1 zuz Tryz.f159 (fun R kk x0 K=>znn x0 (znm R kk kk (z1ex R kk K))) o89 (ek _ _ _ _) Tryz.func159 (by kernel_rfl) rfl (fun _ _ _ _ _ _ h=>h _ _) (fun _ _ _ _=>by kernel_rfl) fun R kk e x0 K=>by
 simp only[Q171,znn,z122,z1r6 (hF:=e),z1k0,nn_,←e]
def Q6_E:Env:=e0 [(.int .i64),(.pair (.int .u64) (.pair (.int .u64) .unit))]
def Tb91:Funs:=Tb90.add 100 [(.int .i64),(.pair (.int .u64) (.pair (.int .u64) .unit))] (pu2 (.int .i64) (.pair (.int .u64) (.pair (.int .u64) .unit)) Q6 (fun _ r K=>K [tS r.1,tI r.2] none))
theorem o91:Okt Tryz.prog Tb91:=st2 Q6_E Tryz.f100 (fun R kk x0 x1 K=>Q6_s0 x0 x1 (fun a0 a1=>K [tS a0,tI a1] none)) o90 (ek _ _ _ _) Tryz.func100 (by kernel_rfl) rfl (fun _ _ _ _ _ _ h=>h _ _) (fun _ _ _ _ _=>by kernel_rfl) fun R kk e x0 x1 K=>by
 simp only[Q6,Q6_s0,nn_]
def Q31_E:Env:=tab.env (fun i=>bif Nat.beq i 5 then [0,6,7,19] else []) (fun i=>bif Nat.beq i 5 then [0,6,19] else []) [] [(.int .i64),(.int .i64)]
def zvx(a:Int)(b:Nat)(c:Int)(d:Nat)(e:(List Int)):Option R:=loopR (ev Q31_E (Tb91 R) kk (sub [1,1,1,0,1,0,0] (cd Tryz.f201))) [0,6,7,19] [0,6,19] k ⟨[tI a]::uS 5 ([.ptr 20 (.spc (.hdr b) (.int .u8) .unit) []]::[tI c]::uS 11 ([.ptr 20 (.spc (.hdr d) (.int .u8) .unit) []]::uS 19 [])),nS 20 ((some ⟨(.spc .row (.int .u8) .unit),e,[]⟩)::nS 19 [])⟩ J
def zsa(a:Int)(b c:Nat)(d:(List Int)):State:=⟨[tI a]::uS 5 ([.ptr 20 (.spc (.hdr b) (.int .u8) .unit) []]::uS 12 ([.ptr 20 (.spc (.hdr c) (.int .u8) .unit) []]::uS 19 [])),nS 20 ((some ⟨(.spc .row (.int .u8) .unit),d,[]⟩)::nS 19 [])⟩
def z1lg:KX R:=(zk 0 (kSeq Q31_E (Tb91 R) kk (sub [1,1,1,1] (cd Tryz.f201)) (kFin Q31_E Tryz.f201.results.toList none K)))
theorem z21f(a:Int)(b:Nat)(c:Int)(d:Nat)(e:(List Int)):zvx R kk (k+1) J a b c d e=
 zia a b c d e (zvx R kk k J) (fun a0 a1 a2 a3=>J (.exit 0) (zsa a0 a1 a2 a3)):=by kernel_rfl
theorem z1s7(a:Int)(b c:Nat)(d:(List Int)):z1lg R kk K (.exit 0) (zsa a b c d)=
 zvz a b c d (fun a0 a1=>K [tS a0,tB a1] none):=by kernel_rfl
theorem z1xg{kk:Nat}(hF:kk=FUEL)(n_0:Int)(nt6:Nat)(t7:Int)(nt19:Nat)(bt19:(List Int)):zvx R kk k J n_0 nt6 t7 nt19 bt19=(z9s k n_0 nt6 t7 nt19 bt19).bind fun e=>J (.exit 0) (zsa e.1 e.2.1 e.2.2.1 e.2.2.2):=by
 induction k generalizing n_0 nt6 t7 nt19 bt19 with
 |zero=>rfl
 |succ k ih=>
  rw[z21f]
  simp only[z9s,zia,ih,nn_]
def Tb92:Funs:=Tb91.add 201 [(.int .i64),(.int .i64)] (pu2 (.int .i64) (.int .i64) Q31 (fun _ r K=>K [tS r.1,tB r.2] none))
theorem o92:Okt Tryz.prog Tb92:=st2 Q31_E Tryz.f201 (fun R kk x0 x1 K=>zvy x0 x1 (fun a0 a1=>K [tS a0,tB a1] none) (zvx R kk kk (z1lg R kk K))) o91 (ek _ _ _ _) Tryz.func201 (by kernel_rfl) rfl (fun _ _ _ _ _ _ h=>h _ _) (fun _ _ _ _ _=>by kernel_rfl) fun R kk e x0 x1 K=>by
 simp only[Q31,zvy,zvz,z1xg (hF:=e),z1s7,nn_,←e]
def z20k:Env:=e0 [(.int .i64),(.int .i64),(.int .i64)]
def Tb93:Funs:=Tb92.add 161 [(.int .i64),(.int .i64),(.int .i64)] (pu3 (.int .i64) (.int .i64) (.int .i64) Q195 (fun _ r K=>K [tS r.1,tI r.2] none))
theorem o93:Okt Tryz.prog Tb93:=st3 z20k Tryz.f161 (fun R kk x0 x1 x2 K=>zo5 x0 x1 x2 (fun a0 a1=>K [tS a0,tI a1] none)) o92 (ek _ _ _ _) Tryz.func161 (by kernel_rfl) rfl (fun _ _ _ _ _ _ h=>h _ _) (fun _ _ _ _ _ _=>by kernel_rfl) fun R kk e x0 x1 x2 K=>by
 simp only[Q195,zo5,nn_]
def Q12_E:Env:=e0 [(.int .i64),y9,.str]
def Tb94:Funs:=Tb93.add 102 [(.int .i64),y9,.str] (pu3 (.int .i64) y9 .str Q12 (fun _ r K=>K [tS r.1,tI r.2] none))
theorem o94:Okt Tryz.prog Tb94:=st3 Q12_E Tryz.f102 (fun R kk x0 x1 x2 K=>zui x0 x1 x2 (fun a0 a1=>K [tS a0,tI a1] none)) o93 (ek _ _ _ _) Tryz.func102 (by kernel_rfl) rfl (fun _ _ _ _ _ _ h=>h _ _) (fun _ _ _ _ _ _=>by kernel_rfl) fun R kk e x0 x1 x2 K=>by
 simp only[Q12,zui,nn_]
def Tryz.lays169_ren:Go.Shelf.Ren:=⟨fun|169=>103|n=>n,fun|70=>144|9=>9|0=>0|72=>147|37=>145|127=>217|3=>3|5=>5|n=>n,fun n=>n⟩
theorem Tryz.lays169:Go.Proofs.Lays.n169 Go.Proofs.Tryz.prog Tryz.lays169_ren:={
 mixed:=by kernel_rfl,
 f169:=Go.Proofs.Tryz.func103.trans (congrArg some (by kernel_rfl)),
 t0:=Go.Proofs.Tryz.underlying0,
 a0:=Go.Proofs.Tryz.isAgg0,
 z0:=Go.Proofs.Tryz.sizeOf0,
 v0:=Go.Proofs.Tryz.zeroValue0,
 t3:=Go.Proofs.Tryz.underlying3,
 a3:=Go.Proofs.Tryz.isAgg3,
 z3:=Go.Proofs.Tryz.sizeOf3,
 v3:=Go.Proofs.Tryz.zeroValue3,
 t9:=Go.Proofs.Tryz.underlying9,
 a9:=Go.Proofs.Tryz.isAgg9,
 z9:=Go.Proofs.Tryz.sizeOf9,
 v9:=Go.Proofs.Tryz.zeroValue9,
 t37:=Go.Proofs.Tryz.underlying145,
 a37:=Go.Proofs.Tryz.isAgg145,
 z37:=Go.Proofs.Tryz.sizeOf145,
 v37:=Go.Proofs.Tryz.zeroValue145,
 t70:=Go.Proofs.Tryz.underlying144,
 a70:=Go.Proofs.Tryz.isAgg144,
 z70:=Go.Proofs.Tryz.sizeOf144,
 v70:=Go.Proofs.Tryz.zeroValue144,
 t72:=Go.Proofs.Tryz.underlying147,
 a72:=Go.Proofs.Tryz.isAgg147,
 z72:=Go.Proofs.Tryz.sizeOf147,
 v72:=Go.Proofs.Tryz.zeroValue147,
 t127:=Go.Proofs.Tryz.underlying217,
 a127:=Go.Proofs.Tryz.isAgg217,
 z127:=Go.Proofs.Tryz.sizeOf217,
 v127:=Go.Proofs.Tryz.zeroValue217}
theorem Tryz.extra169:Go.Proofs.Builder.Extra Go.Proofs.Tryz.prog Tryz.lays169_ren:={
 sizeBuilder:=by kernel_rfl,
 liesBuilder:=by kernel_rfl,
 t5:=Go.Proofs.Tryz.underlying5,
 a5:=Go.Proofs.Tryz.isAgg5,
 z5:=Go.Proofs.Tryz.sizeOf5,
 v5:=Go.Proofs.Tryz.zeroValue5,
 infoByte:=by kernel_rfl,
 cellsByte:=by kernel_rfl,
 sizeByte:=by kernel_rfl,
 neB5:=by decide}
noncomputable abbrev zal:Code:=Tryz.f103.body.getD .skip
theorem z89:Ent Tryz.prog 103:=⟨Tryz.f103,zal,Tryz.func103,by kernel_rfl,by kernel_rfl⟩
def Tb95:Funs:=Tb94.add 103 [] (zj3 147 5)
theorem o95:Okt Tryz.prog Tb95:=⟨o94.mix,zqd o94.nat (z227 _ _),z1ma o94.owes z89 Tryz.lays169 Tryz.extra169 rfl rfl rfl⟩
def zvn:Env:={tab.env (fun i=>bif Nat.beq i 11 then [2,5,7,8,50,51,52] else []) (fun i=>bif Nat.beq i 11 then [5,7] else []) [5] [y15,y5] with bl:=fun t=>bif Nat.beq t 147 then some 5 else none}
def zpt(a:Zt13)(b c:Int)(d:Zt20)(e:Zt6)(f:ByteArray):Option R:=loopR (ev zvn (Tb95 R) kk (sub [1,1,1,1,1,1,1,1,0,1,0,0] (cd Tryz.f38))) [2,5,7,8,50,51,52] [5,7] k ⟨uS 2 ([.ptr 3 y15 []]::uS 2 ([.ptr 6 (.pair (.int .i64) (.pair (.int .i64) .unit)) []]::uS 1 ([.ptr 8 (.spc (.bld 147 5) .unit .unit) []]::[.ptr 8 (.spc (.clo 97) (.spc (.bld 147 5) .unit .unit) .unit) []]::uS 41 ([.dat (.sl 90 (.pair (.int .i64) (.pair .str .unit))) a []]::[tI b]::[tI c]::uS 25 [])))),nS 3 ((some ⟨y15,d,[]⟩)::nS 2 ((some ⟨(.pair (.int .i64) (.pair (.int .i64) .unit)),e,[]⟩)::nS 1 ((some ⟨(.spc (.bld 147 5) .unit .unit),f,[[]]⟩)::nS 70 [])))⟩ J
def zhw(a:Zt6)(b:ByteArray):State:=⟨uS 5 ([.ptr 6 (.pair (.int .i64) (.pair (.int .i64) .unit)) []]::uS 1 ([.ptr 8 (.spc (.bld 147 5) .unit .unit) []]::uS 70 [])),nS 6 ((some ⟨(.pair (.int .i64) (.pair (.int .i64) .unit)),a,[]⟩)::nS 1 ((some ⟨(.spc (.bld 147 5) .unit .unit),b,[[]]⟩)::nS 70 []))⟩
def z1f4:KX R:=(zk 0 (kSeq zvn (Tb95 R) kk (sub [1,1,1,1,1,1,1,1,1] (cd Tryz.f38)) (kFin zvn Tryz.f38.results.toList none K)))
theorem z1x6(a:Zt13)(b c:Int)(d:Zt20)(e:Zt6)(f:ByteArray):zpt R kk (k+1) J a b c d e f=
 z13s a b c d e f (zpt R kk k J) (fun a0 a1=>J (.exit 0) (zhw a0 a1)):=by kernel_rfl
theorem z1l1(a:Zt6)(b:ByteArray):z1f4 R kk K (.exit 0) (zhw a b)=
 z13t a b (fun a0 a1=>K [tS a0,.dat (.pair (.int .i64) (.pair (.int .i64) .unit)) a1 []] none):=by kernel_rfl
theorem z1rw{kk:Nat}(hF:kk=FUEL)(t50:Zt13)(t51 t52:Int)(bt2:Zt20)(bt5:Zt6)(bt7:ByteArray):zpt R kk k J t50 t51 t52 bt2 bt5 bt7=(zct k t50 t51 t52 bt2 bt5 bt7).bind fun e=>J (.exit 0) (zhw e.1 e.2):=by
 induction k generalizing t50 t51 t52 bt2 bt5 bt7 with
 |zero=>rfl
 |succ k ih=>
  rw[z1x6]
  simp only[zct,z13s,ih,nn_]
def Tb96:Funs:=Tb95.add 38 [y15,y5] (pu2 y15 y5 Q248 (fun _ r K=>K [tS r.1,.dat (.pair (.int .i64) (.pair (.int .i64) .unit)) r.2 []] none))
theorem o96:Okt Tryz.prog Tb96:=st2 zvn Tryz.f38 (fun R kk x0 x1 K=>zpu x0 x1 (fun a0 a1=>K [tS a0,.dat (.pair (.int .i64) (.pair (.int .i64) .unit)) a1 []] none) (zpt R kk kk (z1f4 R kk K))) o95 ((ek _ _ _ _).bld 147 5 (by kernel_rfl)) Tryz.func38 (by kernel_rfl) rfl (fun _ _ _ _ _ _ h=>h _ _) (fun _ _ _ _ _=>by kernel_rfl) fun R kk e x0 x1 K=>by
 simp only[Q248,zpu,z13t,z1rw (hF:=e),z1l1,nn_,←e]
def z20s:Env:=e0 [y5,(.pair (.int .i64) (.pair (.int .i64) .unit)),.unit,.unit]
def Tb97:Funs:=Tb96.add 36 [y5,(.pair (.int .i64) (.pair (.int .i64) .unit)),.unit,.unit] (pv y5 (.pair (.int .i64) (.pair (.int .i64) .unit)) y18 y19 Q209 (fun _ r K=>K [tI r.1,tS r.2] none))
theorem o97:Okt Tryz.prog Tb97:=sv z20s Tryz.f36 (fun R kk x0 x1 x2 x3 K=>zoo x0 x1 x2 x3 (fun a0 a1=>K [tI a0,tS a1] none)) o96 (ek _ _ _ _) Tryz.func36 (by kernel_rfl) rfl (fun _ _ _ _ _ _ h=>h _ _) (fun _ _ _ _ _ _ _=>by kernel_rfl) fun R kk e x0 x1 x2 x3 K=>by
 simp only[Q209,zoo,nn_]
def zvp:Env:=tab.env (fun i=>bif Nat.beq i 2 then [1,9,10,11] else []) (fun i=>bif Nat.beq i 2 then [4,5] else []) [] [y16,.str]
def zqa(a:ByteArray)(b:Zt16)(c d:Int):Option R:=loopR (ev zvp (Tb97 R) kk (sub [1,0,1,0,0] (cd Tryz.f108))) [1,9,10,11] [4,5] k ⟨uS 1 ([tS a]::uS 7 ([.dat (.sl 116 (.pair .str (.pair .str .unit))) b []]::[tI c]::[tI d]::uS 10 [])),nS 23 []⟩ J
def zi8(a:ByteArray)(b:Bool):State:=⟨uS 4 ([tS a]::[tB b]::uS 16 []),nS 23 []⟩
def zi9:State:=⟨uS 22 [],nS 23 []⟩
def z14e:KX R:=(zk 0 (kSeq zvp (Tb97 R) kk (sub [1,1] (cd Tryz.f108)) (kFin zvp Tryz.f108.results.toList none K)))
theorem z1xd(a:ByteArray)(b:Zt16)(c d:Int):zqa R kk (k+1) J a b c d=
 z14f a b c d (fun a0 a1=>J .ret (zi8 a0 a1)) (zqa R kk k J) (J (.exit 0) (zi9)):=by kernel_rfl
theorem z1ld(a:ByteArray)(b:Bool):z14e R kk K .ret (zi8 a b)=
 z14g a b (fun a0 a1=>K [tS a0,tB a1] none):=by kernel_rfl
theorem z1le:z14e R kk K (.exit 0) (zi9)=
 z14h (fun a0 a1=>K [tS a0,tB a1] none):=by kernel_rfl
theorem z1s3{kk:Nat}(hF:kk=FUEL)(t_1:ByteArray)(t9:Zt16)(t10 t11:Int):zqa R kk k J t_1 t9 t10 t11=(zcy k t_1 t9 t10 t11).bind fun e=>(Sum.elim (fun(we:Zt5)=>J .ret (zi8 we.1 we.2)) (fun(we:Unit)=>J (.exit 0) (zi9)) e):=by
 induction k generalizing t_1 t9 t10 t11 with
 |zero=>rfl
 |succ k ih=>
  rw[z1xd]
  simp only[zcy,z14f,ih,nn_]
def Tb98:Funs:=Tb97.add 108 [y16,.str] (pu2 y16 .str Q254 (fun _ r K=>K [tS r.1,tB r.2] none))
theorem o98:Okt Tryz.prog Tb98:=st2 zvp Tryz.f108 (fun R kk x0 x1 K=>zqb x0 x1 (zqa R kk kk (z14e R kk K))) o97 (ek _ _ _ _) Tryz.func108 (by kernel_rfl) rfl (fun _ _ _ _ _ _ h=>h _ _) (fun _ _ _ _ _=>by kernel_rfl) fun R kk e x0 x1 K=>by
 simp only[Q254,zqb,z14g,z14h,z1s3 (hF:=e),z1ld,z1le,nn_,←e]
def zvo:Env:={tab.env (fun i=>bif Nat.beq i 2 then [1,4,9,10,11] else []) (fun i=>bif Nat.beq i 2 then [4,5] else []) [4] [y16,(.int .i64)] with ro:=true}
def zq8(a:Int)(b:Zt24)(c d:Int)(e:Zt22):Option R:=loopR (ev zvo (Tb98 R) kk (sub [1,0,1,0,0] (cd Tryz.f109))) [1,4,9,10,11] [4,5] k ⟨uS 1 ([tI a]::uS 2 ([.ptr 5 y12 []]::uS 4 ([.dat (.sl 59 y12) b []]::[tI c]::[tI d]::uS 10 []))),nS 5 ((some ⟨y12,e,[[4]]⟩)::nS 17 [])⟩ J
def zi6(a:Bool)(b:Zt22):State:=⟨uS 4 ([.ptr 5 y12 []]::[tB a]::uS 16 []),nS 5 ((some ⟨y12,b,[]⟩)::nS 17 [])⟩
def zi7(a:Zt22):State:=⟨uS 4 ([.ptr 5 y12 []]::uS 17 []),nS 5 ((some ⟨y12,a,[[4]]⟩)::nS 17 [])⟩
def z14a:KX R:=(zk 0 (kSeq zvo (Tb98 R) kk (sub [1,1] (cd Tryz.f109)) (kFin zvo Tryz.f109.results.toList none K)))
theorem z1xc(a:Int)(b:Zt24)(c d:Int)(e:Zt22):zq8 R kk (k+1) J a b c d e=
 z14b a b c d e (fun a0 a1=>J .ret (zi6 a0 a1)) (zq8 R kk k J) (fun a0=>J (.exit 0) (zi7 a0)):=by kernel_rfl
theorem z1lb(a:Bool)(b:Zt22):z14a R kk K .ret (zi6 a b)=
 z14c a b (fun a0 a1=>K [.dat y12 a0 [],tB a1] none):=by kernel_rfl
theorem z1lc(a:Zt22):z14a R kk K (.exit 0) (zi7 a)=
 z14d a (fun a0 a1=>K [.dat y12 a0 [],tB a1] none):=by kernel_rfl
theorem z1s2{kk:Nat}(hF:kk=FUEL)(no_1:Int)(t9:Zt24)(t10 t11:Int)(bt4:Zt22):zq8 R kk k J no_1 t9 t10 t11 bt4=(zcx k no_1 t9 t10 t11 bt4).bind fun e=>(Sum.elim (fun(we:(Bool×Zt22))=>J .ret (zi6 we.1 we.2)) (fun(we:Zt22)=>J (.exit 0) (zi7 we)) e):=by
 induction k generalizing no_1 t9 t10 t11 bt4 with
 |zero=>rfl
 |succ k ih=>
  rw[z1xc]
  simp only[zcx,z14b,ih,nn_]
def Tb99:Funs:=Tb98.add 109 [y16,(.int .i64)] (pu2 y16 (.int .i64) Q253 (fun _ r K=>K [.dat y12 r.1 [],tB r.2] none))
theorem o99:Okt Tryz.prog Tb99:=st2 zvo Tryz.f109 (fun R kk x0 x1 K=>zq9 x0 x1 (zq8 R kk kk (z14a R kk K))) o98 ((ek _ _ _ _).ro _) Tryz.func109 (by kernel_rfl) rfl (fun _ _ _ _ _ _ h=>h _ _) (fun _ _ _ _ _=>by kernel_rfl) fun R kk e x0 x1 K=>by
 simp only[Q253,zq9,z14c,z14d,z1s2 (hF:=e),z1lb,z1lc,nn_,←e]
def Tryz.laysRepeat_ren:Go.Shelf.Ren:=⟨fun|105=>206|212=>216|99=>217|165=>218|166=>98|170=>219|169=>103|263=>230|264=>231|206=>232|240=>152|241=>233|276=>198|277=>238|n=>n,fun|9=>9|3=>3|4=>4|20=>20|0=>0|46=>248|109=>255|5=>5|72=>147|76=>150|51=>267|146=>268|53=>101|148=>211|70=>144|37=>145|75=>149|127=>217|164=>246|80=>158|n=>n,fun n=>n⟩
theorem Tryz.laysRepeat:Go.Proofs.Lays.n105 Go.Proofs.Tryz.prog Tryz.laysRepeat_ren:={
 mixed:=by kernel_rfl,
 f99:=Go.Proofs.Tryz.func217.trans (congrArg some (by kernel_rfl)),
 f105:=Go.Proofs.Tryz.func206.trans (congrArg some (by kernel_rfl)),
 f165:=Go.Proofs.Tryz.func218.trans (congrArg some (by kernel_rfl)),
 f166:=Go.Proofs.Tryz.func98.trans (congrArg some (by kernel_rfl)),
 f169:=Go.Proofs.Tryz.func103.trans (congrArg some (by kernel_rfl)),
 f170:=Go.Proofs.Tryz.func219.trans (congrArg some (by kernel_rfl)),
 f206:=Go.Proofs.Tryz.func232.trans (congrArg some (by kernel_rfl)),
 f212:=Go.Proofs.Tryz.func216.trans (congrArg some (by kernel_rfl)),
 f240:=Go.Proofs.Tryz.func152.trans (congrArg some (by kernel_rfl)),
 f241:=Go.Proofs.Tryz.func233.trans (congrArg some (by kernel_rfl)),
 f263:=Go.Proofs.Tryz.func230.trans (congrArg some (by kernel_rfl)),
 f264:=Go.Proofs.Tryz.func231.trans (congrArg some (by kernel_rfl)),
 f276:=Go.Proofs.Tryz.func198.trans (congrArg some (by kernel_rfl)),
 f277:=Go.Proofs.Tryz.func238.trans (congrArg some (by kernel_rfl)),
 t0:=Go.Proofs.Tryz.underlying0,
 a0:=Go.Proofs.Tryz.isAgg0,
 z0:=Go.Proofs.Tryz.sizeOf0,
 v0:=Go.Proofs.Tryz.zeroValue0,
 t3:=Go.Proofs.Tryz.underlying3,
 a3:=Go.Proofs.Tryz.isAgg3,
 z3:=Go.Proofs.Tryz.sizeOf3,
 v3:=Go.Proofs.Tryz.zeroValue3,
 t4:=Go.Proofs.Tryz.underlying4,
 a4:=Go.Proofs.Tryz.isAgg4,
 z4:=Go.Proofs.Tryz.sizeOf4,
 v4:=Go.Proofs.Tryz.zeroValue4,
 t5:=Go.Proofs.Tryz.underlying5,
 a5:=Go.Proofs.Tryz.isAgg5,
 z5:=Go.Proofs.Tryz.sizeOf5,
 v5:=Go.Proofs.Tryz.zeroValue5,
 t9:=Go.Proofs.Tryz.underlying9,
 a9:=Go.Proofs.Tryz.isAgg9,
 z9:=Go.Proofs.Tryz.sizeOf9,
 v9:=Go.Proofs.Tryz.zeroValue9,
 t20:=Go.Proofs.Tryz.underlying20,
 a20:=Go.Proofs.Tryz.isAgg20,
 z20:=Go.Proofs.Tryz.sizeOf20,
 v20:=Go.Proofs.Tryz.zeroValue20,
 t37:=Go.Proofs.Tryz.underlying145,
 a37:=Go.Proofs.Tryz.isAgg145,
 z37:=Go.Proofs.Tryz.sizeOf145,
 v37:=Go.Proofs.Tryz.zeroValue145,
 t46:=Go.Proofs.Tryz.underlying248,
 a46:=Go.Proofs.Tryz.isAgg248,
 z46:=Go.Proofs.Tryz.sizeOf248,
 v46:=Go.Proofs.Tryz.zeroValue248,
 t51:=Go.Proofs.Tryz.underlying267,
 a51:=Go.Proofs.Tryz.isAgg267,
 z51:=Go.Proofs.Tryz.sizeOf267,
 v51:=Go.Proofs.Tryz.zeroValue267,
 t53:=Go.Proofs.Tryz.underlying101,
 a53:=Go.Proofs.Tryz.isAgg101,
 z53:=Go.Proofs.Tryz.sizeOf101,
 v53:=Go.Proofs.Tryz.zeroValue101,
 t70:=Go.Proofs.Tryz.underlying144,
 a70:=Go.Proofs.Tryz.isAgg144,
 z70:=Go.Proofs.Tryz.sizeOf144,
 v70:=Go.Proofs.Tryz.zeroValue144,
 t72:=Go.Proofs.Tryz.underlying147,
 a72:=Go.Proofs.Tryz.isAgg147,
 z72:=Go.Proofs.Tryz.sizeOf147,
 v72:=Go.Proofs.Tryz.zeroValue147,
 t75:=Go.Proofs.Tryz.underlying149,
 a75:=Go.Proofs.Tryz.isAgg149,
 z75:=Go.Proofs.Tryz.sizeOf149,
 v75:=Go.Proofs.Tryz.zeroValue149,
 t76:=Go.Proofs.Tryz.underlying150,
 a76:=Go.Proofs.Tryz.isAgg150,
 z76:=Go.Proofs.Tryz.sizeOf150,
 v76:=Go.Proofs.Tryz.zeroValue150,
 t109:=Go.Proofs.Tryz.underlying255,
 a109:=Go.Proofs.Tryz.isAgg255,
 z109:=Go.Proofs.Tryz.sizeOf255,
 v109:=Go.Proofs.Tryz.zeroValue255,
 t127:=Go.Proofs.Tryz.underlying217,
 a127:=Go.Proofs.Tryz.isAgg217,
 z127:=Go.Proofs.Tryz.sizeOf217,
 v127:=Go.Proofs.Tryz.zeroValue217,
 t146:=Go.Proofs.Tryz.underlying268,
 a146:=Go.Proofs.Tryz.isAgg268,
 z146:=Go.Proofs.Tryz.sizeOf268,
 v146:=Go.Proofs.Tryz.zeroValue268,
 t148:=Go.Proofs.Tryz.underlying211,
 a148:=Go.Proofs.Tryz.isAgg211,
 z148:=Go.Proofs.Tryz.sizeOf211,
 v148:=Go.Proofs.Tryz.zeroValue211,
 t164:=Go.Proofs.Tryz.underlying246,
 a164:=Go.Proofs.Tryz.isAgg246,
 z164:=Go.Proofs.Tryz.sizeOf246,
 v164:=Go.Proofs.Tryz.zeroValue246}
theorem Tryz.extraRepeat:Go.Proofs.Builder.Extra Go.Proofs.Tryz.prog Tryz.laysRepeat_ren:={
 sizeBuilder:=by kernel_rfl,
 liesBuilder:=by kernel_rfl,
 t5:=Tryz.laysRepeat.t5,
 a5:=Tryz.laysRepeat.a5,
 z5:=Tryz.laysRepeat.z5,
 v5:=Tryz.laysRepeat.v5,
 infoByte:=by kernel_rfl,
 cellsByte:=by kernel_rfl,
 sizeByte:=by kernel_rfl,
 neB5:=by decide}
noncomputable abbrev ztw:Code:=Tryz.f206.body.getD .skip
theorem zki:Ent Tryz.prog 206:=⟨Tryz.f206,ztw,Tryz.func206,by kernel_rfl,by kernel_rfl⟩
def zam:Pure:=fun R l b K=>noBox b (args2 .str (.int .i64) l fun x0 x1=>(strings_Repeat x0 x1).bind fun r=>K [.dat .str r []] none)
theorem ztx:zam.Nat:=fun R S l b F G K h=>z4j (z15h fun _ _=>z2s fun _=>h _ _)
def Tb100:Funs:=Tb99.add 206 [] zam
theorem o100:Okt Tryz.prog Tb100:=⟨o99.mix,zqd o99.nat ztx,z1ub o99.owes zki strings_Repeat (zew Tryz.laysRepeat Tryz.extraRepeat (by kernel_rfl))⟩
def zvl:Env:=tab.env (fun i=>bif Nat.beq i 1 then [0,1] else []) (fun i=>bif Nat.beq i 1 then [0] else []) [] [.str,(.int .u8)]
def zpk(a:ByteArray)(b:Int):Option R:=loopR (ev zvl (Tb100 R) kk (sub [1,0,0,0] (cd Tryz.f221))) [0,1] [0] k ⟨[tS a]::[tU b]::uS 21 [],nS 24 []⟩ J
def zht(a:ByteArray):State:=⟨[tS a]::uS 22 [],nS 24 []⟩
def z1f3:KX R:=(zk 0 (kSeq zvl (Tb100 R) kk (sub [1,1] (cd Tryz.f221)) (kFin zvl Tryz.f221.results.toList none K)))
theorem z1x4(a:ByteArray)(b:Int):zpk R kk (k+1) J a b=
 zpm a b (zpk R kk k J) (fun a0=>J (.exit 0) (zht a0)):=by kernel_rfl
theorem z1ky(a:ByteArray):z1f3 R kk K (.exit 0) (zht a)=
 zpn a (fun a0=>K [tS a0] none):=by kernel_rfl
theorem z1ru{kk:Nat}(hF:kk=FUEL)(s_0:ByteArray)(c_1:Int):zpk R kk k J s_0 c_1=(z99 k s_0 c_1).bind fun e=>J (.exit 0) (zht e):=by
 induction k generalizing s_0 c_1 with
 |zero=>rfl
 |succ k ih=>
  rw[z1x4]
  simp only[z99,zpm,ih,nn_]
def Tb101:Funs:=Tb100.add 221 [.str,(.int .u8)] (pu2 .str (.int .u8) Q238 (fun _ r K=>K [tS r] none))
theorem o101:Okt Tryz.prog Tb101:=st2 zvl Tryz.f221 (fun R kk x0 x1 K=>zpl x0 x1 (zpk R kk kk (z1f3 R kk K))) o100 (ek _ _ _ _) Tryz.func221 (by kernel_rfl) rfl (fun _ _ _ _ _ _ h=>h _ _) (fun _ _ _ _ _=>by kernel_rfl) fun R kk e x0 x1 K=>by
 simp only[Q238,zpl,zpn,z1ru (hF:=e),z1ky,nn_,←e]
def zvk:Env:=tab.env (fun i=>bif Nat.beq i 1 then [0,1] else []) (fun i=>bif Nat.beq i 1 then [0] else []) [] [.str,(.int .u8)]
def zpg(a:ByteArray)(b:Int):Option R:=loopR (ev zvk (Tb101 R) kk (sub [1,0,0,0] (cd Tryz.f220))) [0,1] [0] k ⟨[tS a]::[tU b]::uS 15 [],nS 18 []⟩ J
def zhs(a:ByteArray):State:=⟨[tS a]::uS 16 [],nS 18 []⟩
def z1f2:KX R:=(zk 0 (kSeq zvk (Tb101 R) kk (sub [1,1] (cd Tryz.f220)) (kFin zvk Tryz.f220.results.toList none K)))
theorem z1x3(a:ByteArray)(b:Int):zpg R kk (k+1) J a b=
 zpi a b (zpg R kk k J) (fun a0=>J (.exit 0) (zhs a0)):=by kernel_rfl
theorem z1kx(a:ByteArray):z1f2 R kk K (.exit 0) (zhs a)=
 zpj a (fun a0=>K [tS a0] none):=by kernel_rfl
theorem z1rt{kk:Nat}(hF:kk=FUEL)(s_0:ByteArray)(c_1:Int):zpg R kk k J s_0 c_1=(z98 k s_0 c_1).bind fun e=>J (.exit 0) (zhs e):=by
 induction k generalizing s_0 c_1 with
 |zero=>rfl
 |succ k ih=>
  rw[z1x3]
  simp only[z98,zpi,ih,nn_]
def Tb102:Funs:=Tb101.add 220 [.str,(.int .u8)] (pu2 .str (.int .u8) Q237 (fun _ r K=>K [tS r] none))
theorem o102:Okt Tryz.prog Tb102:=st2 zvk Tryz.f220 (fun R kk x0 x1 K=>zph x0 x1 (zpg R kk kk (z1f2 R kk K))) o101 (ek _ _ _ _) Tryz.func220 (by kernel_rfl) rfl (fun _ _ _ _ _ _ h=>h _ _) (fun _ _ _ _ _=>by kernel_rfl) fun R kk e x0 x1 K=>by
 simp only[Q237,zph,zpj,z1rt (hF:=e),z1kx,nn_,←e]
def z216:Env:=e0 [.str,.str]
def Tb103:Funs:=Tb102.add 207 [.str,.str] (pu2 .str .str Q235 (fun _ r K=>K [tS r] none))
theorem o103:Okt Tryz.prog Tb103:=st2 z216 Tryz.f207 (fun R kk x0 x1 K=>zpf x0 x1 (fun a0=>K [tS a0] none)) o102 (ek _ _ _ _) Tryz.func207 (by kernel_rfl) rfl (fun _ _ _ _ _ _ h=>h _ _) (fun _ _ _ _ _=>by kernel_rfl) fun R kk e x0 x1 K=>by
 simp only[Q235,zpf,nn_]
def Q30_E:Env:=e0 [.str,(.int .i64)]
def Tb104:Funs:=Tb103.add 171 [.str,(.int .i64)] (pu2 .str (.int .i64) Q30 (fun _ r K=>K [tS r.1,tB r.2] none))
theorem o104:Okt Tryz.prog Tb104:=st2 Q30_E Tryz.f171 (fun R kk x0 x1 K=>zvw x0 x1 (fun a0 a1=>K [tS a0,tB a1] none)) o103 (ek _ _ _ _) Tryz.func171 (by kernel_rfl) rfl (fun _ _ _ _ _ _ h=>h _ _) (fun _ _ _ _ _=>by kernel_rfl) fun R kk e x0 x1 K=>by
 simp only[Q30,zvw,nn_]
def Q20_E:Env:=tab.env (fun i=>bif Nat.beq i 2 then [1,8,9,10] else []) (fun i=>bif Nat.beq i 2 then [4,5] else []) [] [(.sl 116 (.pair .str (.pair .str .unit))),.str]
def zv9(a:ByteArray)(b:Zt16)(c d:Int):Option R:=loopR (ev Q20_E (Tb104 R) kk (sub [1,0,1,0,0] (cd Tryz.f172))) [1,8,9,10] [4,5] k ⟨uS 1 ([tS a]::uS 6 ([.dat (.sl 116 (.pair .str (.pair .str .unit))) b []]::[tI c]::[tI d]::uS 10 [])),nS 22 []⟩ J
def zs3(a:ByteArray)(b:Bool):State:=⟨uS 4 ([tS a]::[tB b]::uS 15 []),nS 22 []⟩
def zs4:State:=⟨uS 21 [],nS 22 []⟩
def z18z:KX R:=(zk 0 (kSeq Q20_E (Tb104 R) kk (sub [1,1] (cd Tryz.f172)) (kFin Q20_E Tryz.f172.results.toList none K)))
theorem z20t(a:ByteArray)(b:Zt16)(c d:Int):zv9 R kk (k+1) J a b c d=
 z190 a b c d (fun a0 a1=>J .ret (zs3 a0 a1)) (zv9 R kk k J) (J (.exit 0) (zs4)):=by kernel_rfl
theorem z1ri(a:ByteArray)(b:Bool):z18z R kk K .ret (zs3 a b)=
 z191 a b (fun a0 a1=>K [tS a0,tB a1] none):=by kernel_rfl
theorem z1rj:z18z R kk K (.exit 0) (zs4)=
 z192 (fun a0 a1=>K [tS a0,tB a1] none):=by kernel_rfl
theorem z1wu{kk:Nat}(hF:kk=FUEL)(text_1:ByteArray)(t8:Zt16)(t9 t10:Int):zv9 R kk k J text_1 t8 t9 t10=(zhc k text_1 t8 t9 t10).bind fun e=>(Sum.elim (fun(we:Zt5)=>J .ret (zs3 we.1 we.2)) (fun(we:Unit)=>J (.exit 0) (zs4)) e):=by
 induction k generalizing text_1 t8 t9 t10 with
 |zero=>rfl
 |succ k ih=>
  rw[z20t]
  simp only[zhc,z190,ih,nn_]
def Tb105:Funs:=Tb104.add 172 [(.sl 116 (.pair .str (.pair .str .unit))),.str] (pu2 (.sl 116 (.pair .str (.pair .str .unit))) .str Q20 (fun _ r K=>K [tS r.1,tB r.2] none))
theorem o105:Okt Tryz.prog Tb105:=st2 Q20_E Tryz.f172 (fun R kk x0 x1 K=>zva x0 x1 (zv9 R kk kk (z18z R kk K))) o104 (ek _ _ _ _) Tryz.func172 (by kernel_rfl) rfl (fun _ _ _ _ _ _ h=>h _ _) (fun _ _ _ _ _=>by kernel_rfl) fun R kk e x0 x1 K=>by
 simp only[Q20,zva,z191,z192,z1wu (hF:=e),z1ri,z1rj,nn_,←e]
def z20u:Env:=tab.env (fun _=>[]) (fun _=>[]) [6] [y12,y15,.str]
def Tb106:Funs:=Tb105.add 110 [y12,y15,.str] (pu3 y12 y15 .str Q216 (fun _ r K=>K [.dat (.pair (.int .i64) (.pair .str .unit)) r.1 [],tI r.2] none))
theorem o106:Okt Tryz.prog Tb106:=st3 z20u Tryz.f110 (fun R kk x0 x1 x2 K=>zop x0 x1 x2 (fun a0 a1=>K [.dat (.pair (.int .i64) (.pair .str .unit)) a0 [],tI a1] none)) o105 (ek _ _ _ _) Tryz.func110 (by kernel_rfl) rfl (fun _ _ _ _ _ _ h=>h _ _) (fun _ _ _ _ _ _=>by kernel_rfl) fun R kk e x0 x1 x2 K=>by
 simp only[Q216,zop,nn_]
def z9r:Env:={{tab.env (fun i=>bif Nat.beq i 12 then [4,6,7,8,9,16,59,60,61] else bif Nat.beq i 18 then [4,6,8,9,16,76,77,78] else []) (fun i=>bif Nat.beq i 12 then [4,6,7,8,9,16] else bif Nat.beq i 18 then [8,9,16] else []) [8,9] [y16,y15,y15,y5] with dr:=fun i=>bif Nat.beq i 12 then [17] else []} with ro:=true}
def zq4(a:Zt24)(b c:Int)(d:Zt26)(e:Zt20)(f g:Zt19)(h:Zt6)(i:Zt19):Option R:=loopR (ev z9r (Tb106 R) kk (sub [1,1,1,1,1,1,0,1,0,0] (cd Tryz.f40))) [4,6,7,8,9,16,59,60,61] [4,6,7,8,9,16] k ⟨uS 4 ([.ptr 5 y16 []]::uS 1 ([.ptr 7 y15 []]::[.ptr 8 y5 []]::[.ptr 9 y5 []]::[.ptr 10 (.pair (.int .i64) (.pair (.int .i64) .unit)) []]::uS 6 ([.ptr 17 y5 []]::uS 42 ([.dat (.sl 59 y12) a []]::[tI b]::[tI c]::uS 60 [])))),nS 5 ((some ⟨y16,d,[]⟩)::nS 1 ((some ⟨y15,e,[]⟩)::(some ⟨y5,f,[]⟩)::(some ⟨y5,g,[[1]]⟩)::(some ⟨(.pair (.int .i64) (.pair (.int .i64) .unit)),h,[]⟩)::nS 6 ((some ⟨y5,i,[]⟩)::nS 105 [])))⟩ J
def zi3(a:Zt26)(b:Zt20)(c d:Zt19)(e:Zt6)(f:Zt19):State:=⟨uS 4 ([.ptr 5 y16 []]::uS 1 ([.ptr 7 y15 []]::[.ptr 8 y5 []]::[.ptr 9 y5 []]::[.ptr 10 (.pair (.int .i64) (.pair (.int .i64) .unit)) []]::uS 6 ([.ptr 17 y5 []]::uS 105 []))),nS 5 ((some ⟨y16,a,[]⟩)::nS 1 ((some ⟨y15,b,[]⟩)::(some ⟨y5,c,[]⟩)::(some ⟨y5,d,[[1]]⟩)::(some ⟨(.pair (.int .i64) (.pair (.int .i64) .unit)),e,[]⟩)::nS 6 ((some ⟨y5,f,[]⟩)::nS 105 [])))⟩
def z1f5:KX R:=(zk 0 (kSeq z9r (Tb106 R) kk (sub [1,1,1,1,1,1,1] (cd Tryz.f40)) (kFin z9r Tryz.f40.results.toList none K)))
def zq5(a:Zt13)(b c:Int)(d:Zt26)(e:Zt20)(f:Zt19)(g:Zt6)(h:Zt19):Option R:=loopR (ev z9r (Tb106 R) kk (sub [1,1,1,1,1,1,1,0,1,0,0] (cd Tryz.f40))) [4,6,8,9,16,76,77,78] [8,9,16] k ⟨uS 4 ([.ptr 5 y16 []]::uS 1 ([.ptr 7 y15 []]::uS 1 ([.ptr 9 y5 []]::[.ptr 10 (.pair (.int .i64) (.pair (.int .i64) .unit)) []]::uS 6 ([.ptr 17 y5 []]::uS 59 ([.dat (.sl 90 (.pair (.int .i64) (.pair .str .unit))) a []]::[tI b]::[tI c]::uS 43 []))))),nS 5 ((some ⟨y16,d,[]⟩)::nS 1 ((some ⟨y15,e,[]⟩)::nS 1 ((some ⟨y5,f,[[1]]⟩)::(some ⟨(.pair (.int .i64) (.pair (.int .i64) .unit)),g,[]⟩)::nS 6 ((some ⟨y5,h,[]⟩)::nS 105 []))))⟩ J
def zi4(a:Zt19)(b:Zt6)(c:Zt19):State:=⟨uS 8 ([.ptr 9 y5 []]::[.ptr 10 (.pair (.int .i64) (.pair (.int .i64) .unit)) []]::uS 6 ([.ptr 17 y5 []]::uS 105 [])),nS 9 ((some ⟨y5,a,[[1]]⟩)::(some ⟨(.pair (.int .i64) (.pair (.int .i64) .unit)),b,[]⟩)::nS 6 ((some ⟨y5,c,[]⟩)::nS 105 []))⟩
def zi5(a:Zt19)(b:Zt6)(c:Zt19):State:=⟨uS 8 ([.ptr 9 y5 []]::[.ptr 10 (.pair (.int .i64) (.pair (.int .i64) .unit)) []]::uS 6 ([.ptr 17 y5 []]::uS 105 [])),nS 9 ((some ⟨y5,a,[[1]]⟩)::(some ⟨(.pair (.int .i64) (.pair (.int .i64) .unit)),b,[]⟩)::nS 6 ((some ⟨y5,c,[]⟩)::nS 105 []))⟩
def z143:KX R:=(zk 2 (kSeq z9r (Tb106 R) kk (sub [1,1,1,1,1,1,1,1] (cd Tryz.f40)) (kFin z9r Tryz.f40.results.toList none K)))
theorem z1xa(a:Zt24)(b c:Int)(d:Zt26)(e:Zt20)(f g:Zt19)(h:Zt6)(i:Zt19):zq4 R kk (k+1) J a b c d e f g h i=
 z144 a b c d e f g h i (zq4 R kk k J) (fun a0 a1 a2 a3 a4 a5=>J (.exit 0) (zi3 a0 a1 a2 a3 a4 a5)):=by kernel_rfl
theorem z1l8(a:Zt26)(b:Zt20)(c d:Zt19)(e:Zt6)(f:Zt19):z1f5 R kk K (.exit 0) (zi3 a b c d e f)=
 zq7 a b c d e f (zq5 R kk kk (z143 R kk K)):=by kernel_rfl
theorem z1xb(a:Zt13)(b c:Int)(d:Zt26)(e:Zt20)(f:Zt19)(g:Zt6)(h:Zt19):zq5 R kk (k+1) J a b c d e f g h=
 z145 a b c d e f g h (fun a0 a1 a2=>J .ret (zi4 a0 a1 a2)) (zq5 R kk k J) (fun a0 a1 a2=>J (.exit 2) (zi5 a0 a1 a2)):=by kernel_rfl
theorem z1l9(a:Zt19)(b:Zt6)(c:Zt19):z143 R kk K .ret (zi4 a b c)=
 z147 a b c (fun a0 a1=>K [.dat y5 a0 [],.dat (.pair (.int .i64) (.pair (.int .i64) .unit)) a1 []] none):=by kernel_rfl
theorem z1la(a:Zt19)(b:Zt6)(c:Zt19):z143 R kk K (.exit 2) (zi5 a b c)=
 z149 a b c (fun a0 a1=>K [.dat y5 a0 [],.dat (.pair (.int .i64) (.pair (.int .i64) .unit)) a1 []] none):=by kernel_rfl
theorem z1s0{kk:Nat}(hF:kk=FUEL)(t59:Zt24)(t60 t61:Int)(bt4:Zt26)(bt6:Zt20)(bt7 bt8:Zt19)(bt9:Zt6)(bt16:Zt19):zq4 R kk k J t59 t60 t61 bt4 bt6 bt7 bt8 bt9 bt16=(zcv k t59 t60 t61 bt4 bt6 bt7 bt8 bt9 bt16).bind fun e=>J (.exit 0) (zi3 e.1 e.2.1 e.2.2.1 e.2.2.2.1 e.2.2.2.2.1 e.2.2.2.2.2):=by
 induction k generalizing t59 t60 t61 bt4 bt6 bt7 bt8 bt9 bt16 with
 |zero=>rfl
 |succ k ih=>
  rw[z1xa]
  simp only[zcv,z144,ih,nn_]
theorem z1s1{kk:Nat}(hF:kk=FUEL)(t76:Zt13)(t77 t78:Int)(bt4:Zt26)(bt6:Zt20)(bt8:Zt19)(bt9:Zt6)(bt16:Zt19):zq5 R kk k J t76 t77 t78 bt4 bt6 bt8 bt9 bt16=(zcw k t76 t77 t78 bt4 bt6 bt8 bt9 bt16).bind fun e=>(Sum.elim (fun(we:Zt25)=>J .ret (zi4 we.1 we.2.1 we.2.2)) (fun(we:Zt25)=>J (.exit 2) (zi5 we.1 we.2.1 we.2.2)) e):=by
 induction k generalizing t76 t77 t78 bt4 bt6 bt8 bt9 bt16 with
 |zero=>rfl
 |succ k ih=>
  rw[z1xb]
  simp only[zcw,z145,ih,nn_]
def Tb107:Funs:=Tb106.add 40 [y16,y15,y15,y5] (pu4 y16 y15 y15 y5 Q252 (fun _ r K=>K [.dat y5 r.1 [],.dat (.pair (.int .i64) (.pair (.int .i64) .unit)) r.2 []] none))
theorem o107:Okt Tryz.prog Tb107:=st4 z9r Tryz.f40 (fun R kk x0 x1 x2 x3 K=>zq6 x0 x1 x2 x3 (fun a0 a1=>K [.dat y5 a0 [],.dat (.pair (.int .i64) (.pair (.int .i64) .unit)) a1 []] none) (zq4 R kk kk (z1f5 R kk K))) o106 (((ek _ _ _ _).dr _).ro _) Tryz.func40 (by kernel_rfl) rfl (fun _ _ _ _ _ _ h=>h _ _) (fun _ _ _ _ _ _ _=>by kernel_rfl) fun R kk e x0 x1 x2 x3 K=>by
 simp only[Q252,zq6,zq7,z147,z149,z1s0 (hF:=e),z1s1 (hF:=e),z1l8,z1l9,z1la,nn_,←e]
def z20r:Env:={e0 [y19,(.int .i64),.str] with fr:=fun i=>bif Nat.beq i 5 then [12,4] else []}
def Tb108:Funs:=Tb107.add 14 [y19,(.int .i64),.str] (pu3 y19 (.int .i64) .str Q208 (fun _ r K=>K [tI r.1,tS r.2] none))
theorem o108:Okt Tryz.prog Tb108:=st3 z20r Tryz.f14 (fun R kk x0 x1 x2 K=>zon x0 x1 x2 (fun a0 a1=>K [tI a0,tS a1] none)) o107 ((ek _ _ _ _).fr _) Tryz.func14 (by kernel_rfl) rfl (fun _ _ _ _ _ _ h=>h _ _) (fun _ _ _ _ _ _=>by kernel_rfl) fun R kk e x0 x1 x2 K=>by
 simp only[Q208,zon,nn_]
def Q60_E:Env:=e0 []
def Tb109:Funs:=Tb108.add 9 [] (pu0 Q60 (fun _ r K=>K [tB r] none))
theorem o109:Okt Tryz.prog Tb109:=st0 Q60_E Tryz.f9 (fun R kk K=>z19e (fun a0=>K [tB a0] none)) o108 (ek _ _ _ _) Tryz.func9 (by kernel_rfl) rfl (fun _ _ _ _ _ _ h=>h _ _) (fun _ _ _=>by kernel_rfl) fun R kk e K=>by
 simp only[Q60,z19e,nn_]
def zup:Env:=tab.env (fun i=>bif Nat.beq i 4 then [1,3] else []) (fun i=>bif Nat.beq i 4 then [2] else []) [] [y18]
def zn4(a:Int)(b:Zt28):Option R:=loopR (ev zup (Tb109 R) kk (sub [1,1,0,1,0,0] (cd Tryz.f28))) [1,3] [2] k ⟨uS 1 ([.ptr 2 y18 []]::uS 1 ([tI a]::uS 32 [])),nS 2 ((some ⟨y18,b,[]⟩)::nS 34 [])⟩ J
def zgg(a:Bool):State:=⟨uS 2 ([tB a]::uS 33 []),nS 37 []⟩
def zgh:State:=⟨uS 36 [],nS 37 []⟩
def z11g:KX R:=(zk 0 (kSeq zup (Tb109 R) kk (sub [1,1,1] (cd Tryz.f28)) (kFin zup Tryz.f28.results.toList none K)))
theorem z1w9(a:Int)(b:Zt28):zn4 R kk (k+1) J a b=
 z11h a b (fun a0=>J .ret (zgg a0)) (zn4 R kk k J) (J (.exit 0) (zgh)):=by kernel_rfl
theorem z1jp(a:Bool):z11g R kk K .ret (zgg a)=
 z11i a (fun a0=>K [tB a0] none):=by kernel_rfl
theorem z1jq:z11g R kk K (.exit 0) (zgh)=
 z11j (fun a0=>K [tB a0] none):=by kernel_rfl
end
end Go.Proofs.YtkgpjibbdpikcaaGreatDoor

