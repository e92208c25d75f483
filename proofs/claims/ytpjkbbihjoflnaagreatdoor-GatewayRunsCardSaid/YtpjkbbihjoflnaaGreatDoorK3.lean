/- No condition. -/
import Derived.Test.YtpjkbbihjoflnaaGreatDoorK2
import Derived.Laws.RangeString
set_option linter.unusedVariables false
set_option linter.unusedSimpArgs false
set_option maxRecDepth 100000
open BitVec renaming toNat_and->zfW
open Bool renaming not_true->ab,and_eq_true->nd,not_false->GW,true_and->zbC,and_false->zbW,or_false->zb2,and_true->zcV
open ByteArray renaming size_extract->zar,size_append->zaU,append_assoc->zcw,data_append->zcC
open Go.IntKind renaming signed->zb3,bits->zb4,wrap->zcP
open Go.Lib renaming repeatL->zef
open Go.Utf8 renaming decode->zbQ
open Int renaming toNat_natCast->ba,tdiv->zaf,fdiv->zal,toNat_of_nonneg->zaG,tmod->zaN,le_refl->zaT,reduceEq->za7,eq_ofNat_of_zero_le->zfP,add_zero->zgB
open List renaming length->aa,getD->an,getD_eq_getElem?_getD->be,getElem?_eq_getElem->ks,length_cons->ls,replicate->so,length_append->th,drop_eq_getElem_cons->AT,length_singleton->By,mem_cons_of_mem->Cs,drop_eq_nil_of_le->GA,drop_zero->GS,mem_cons->If,mem_cons_self->IS,append_assoc->MM,mem_append->M2,length_take->Of,all_eq_true->OF,mem_filter->zab,nil_append->zah,pairwise_cons->zak,eq_nil_of_length_eq_zero->zam,getElem_mem->zan,map_cons->zaq,mem_map->zau,length_nil->zav,append_nil->zay,length_drop->zaD,take_length->zaH,mem_of_find?_eq_some->zaV,set->za1,foldl_cons->za3,take_of_length_le->za6,take_zero->zbd,find?_cons->zbB,map_congr_left->zbD,length_replicate->zbY,mem_of_mem_drop->zb1,getElem_take->zcM,all_cons->zdj,dropLast_concat_getLast->zeu,drop_succ_cons->zeK,mem_replicate->zeW,all_append->zgA,replicate_zero->zgR
open Nat renaming le_refl->zag,pow_le_pow_right->zaI,min_eq_left->zaQ,testBit_lt_two_pow->zaZ,lt_of_lt_of_le->zbh,testBit_two_pow->zcs,eq_of_testBit_eq->zdB,pow_succ->zdL,testBit_and->zdS,lt_of_le_of_lt->zdV,and_le_left->zeJ,two_pow_pos->zf9
open Option renaming bind_some->ir
open Option.some renaming inj->zaE
open Sum renaming elim->GB,elim_inr->zaA,elim_inl->zek
open UInt8 renaming toNat_ofNat_of_lt'->zfF
namespace bz
open Go.IntKind renaming wrap->zW,i64->zI,u8->zU
open Go Go.Ref
def N2{R:Type}(a:ah)(b:ByteArray)(c:ag->aH->Option R)(d:ByteArray->(List Int)->Int->Int->ah->ag->aH->ag->Option R):Option R:=
 (yQ a).bind λr1=>bif !r1 then c (bs [],[],()) (1,(-1:Int),()) else bif a.1=2 then bif(b.size:Int)<2 then c (bs [],[],()) (2,0,()) else bif 2<=(b.size:Int) then bif a.1=2 then(ux (b.extract 0 ((2:Int)).toNat) (4:Int)).bind λr2=>(kH r2.1).bind λr3=>bif !r3 then c (bs [],[],()) (7,0,()) else zd 0 r2.1.size (bif !decide (zW zI (zW zI (ze r2.1 ((0:Int)).toNat)-48)=a.2.1) then c (bs [],[],()) (7,0,()) else(yN a.1 b (2:Int)).bind λr4=>bif !decide (r4.2.2=0) then c (r2.1,[],()) (r4.2.2,1,()) else d b r4.1 r4.2.1 0 a (bs [],[],()) (0,0,()) (r2.1,[],())) else(kH (b.extract 0 ((2:Int)).toNat)).bind λr5=>bif !r5 then c (bs [],[],()) (7,0,()) else zd 0 (b.extract 0 ((2:Int)).toNat).size (bif !decide (zW zI (zW zI (ze (b.extract 0 ((2:Int)).toNat) ((0:Int)).toNat)-48)=a.2.1) then c (bs [],[],()) (7,0,()) else(yN a.1 b (2:Int)).bind λr6=>bif !decide (r6.2.2=0) then c (b.extract 0 ((2:Int)).toNat,[],()) (r6.2.2,1,()) else d b r6.1 r6.2.1 0 a (bs [],[],()) (0,0,()) (b.extract 0 ((2:Int)).toNat,[],())) else none else bif(b.size:Int)<4 then c (bs [],[],()) (2,0,()) else bif 4<=(b.size:Int) then bif a.1=2 then(ux (b.extract 0 ((4:Int)).toNat) (4:Int)).bind λr7=>(kH r7.1).bind λr8=>bif !r8 then c (bs [],[],()) (7,0,()) else zd 0 r7.1.size (bif !decide (zW zI (zW zI (ze r7.1 ((0:Int)).toNat)-48)=a.2.1) then c (bs [],[],()) (7,0,()) else(yN a.1 b (4:Int)).bind λr9=>bif !decide (r9.2.2=0) then c (r7.1,[],()) (r9.2.2,1,()) else d b r9.1 r9.2.1 0 a (bs [],[],()) (0,0,()) (r7.1,[],())) else(kH (b.extract 0 ((4:Int)).toNat)).bind λj4=>bif !j4 then c (bs [],[],()) (7,0,()) else zd 0 (b.extract 0 ((4:Int)).toNat).size (bif !decide (zW zI (zW zI (ze (b.extract 0 ((4:Int)).toNat) ((0:Int)).toNat)-48)=a.2.1) then c (bs [],[],()) (7,0,()) else(yN a.1 b (4:Int)).bind λjt=>bif !decide (jt.2.2=0) then c (b.extract 0 ((4:Int)).toNat,[],()) (jt.2.2,1,()) else d b jt.1 jt.2.1 0 a (bs [],[],()) (0,0,()) (b.extract 0 ((4:Int)).toNat,[],())) else none
theorem ade{R S:Type}(F:R->Option S)(a)(b)(c)(d):(N2 a b c d).bind F=N2 a b (λa0 a1=>(c a0 a1).bind F) (λa0 a1 a2 a3 a4 a5 a6 a7=>(d a0 a1 a2 a3 a4 a5 a6 a7).bind F):=by simp only[N2,av]
def ZA{R:Type}(a:ByteArray)(b:(List Int))(c d:Int)(e:ah)(f:ag)(g:aH)(h:ag)(i:ByteArray->Int->ag->aH->ag->Option R)(j:ByteArray->(List Int)->Int->Int->ah->ag->aH->ag->Option R)(l:ByteArray->Int->ag->aH->ag->Option R):Option R:=
 bif d<((aa b):Int) then zd d (aa b) ((uy e (an b d.toNat (0:Int))).bind λlD=>bif lD<0 then zd d (aa b) (i a c h (9,an b d.toNat 0,()) h) else zd lD (aa e.2.2.1) ((Nj e.1 (an e.2.2.1 lD.toNat (0,0,0,0,0,())) a c).bind λju=>bif !decide (ju.2.2=0) then zd d (aa b) (i a c h (ju.2.2,an b d.toNat 0,()) h) else zd d (aa b) (bif(aa h.2.1+aa ([(an b d.toNat (0:Int),ju.1,())]:List aT))*24<=140737488355328 then j a b ju.2.1 (zW zI (d+1)) e f g (h.1,h.2.1++([(an b d.toNat 0,ju.1,())]:List aT),()) else none))) else l a c f g h
def Hp{R:Type}(a:ByteArray)(b:Int)(c:ag)(d:aH)(e:ag)(f:ag->aH->Option R):Option R:=
 f c d
def Hq{R:Type}(a:ByteArray)(b:Int)(c:ag)(d:aH)(e:ag)(f:ag->aH->Option R):Option R:=
 bif b<(a.size:Int) then f e (12,129,()) else f e (0,0,())
def Fv:Nat->ByteArray->(List Int)->Int->Int->ah->ag->aH->ag->Option (Sum ki ki)
 |0,_,_,_,_,_,_,_,_=>none
 |k+1,v0,v1,v2,v3,v4,v5,v6,v7=>ZA v0 v1 v2 v3 v4 v5 v6 v7 (λa0 a1 a2 a3 a4=>some (.inl (a0,a1,a2,a3,a4))) (λa0 a1 a2 a3 a4 a5 a6 a7=>Fv k a0 a1 a2 a3 a4 a5 a6 a7) (λa0 a1 a2 a3 a4=>some (.inr (a0,a1,a2,a3,a4)))
def sU(a:ah)(b:ByteArray):Option wh:=
 N2 a b (λa0 a1=>some (a0,a1)) (λa0 a1 a2 a3 a4 a5 a6 a7=>(Fv af a0 a1 a2 a3 a4 a5 a6 a7).bind λe=>GB (λ(we:ki)=>Hp we.1 we.2.1 we.2.2.1 we.2.2.2.1 we.2.2.2.2 (λa0 a1=>some (a0,a1))) (λ(we:ki)=>Hq we.1 we.2.1 we.2.2.1 we.2.2.2.1 we.2.2.2.2 (λa0 a1=>some (a0,a1))) e)
def Hu{R:Type}(a:bd)(b:bd->bd->Int->Option R):Option R:=
 b a [] 0
def Hv{R:Type}(a b:bd)(c:Int)(d:bd->bd->Int->Option R)(e:bd->Option R):Option R:=
 bif c<((aa a):Int) then zd c (aa a) (zd c (aa a) (bif(aa b+aa ([((an a c.toNat (bs [],bs [],())).2.1,(an a c.toNat (bs [],bs [],())).1,())]:List dK))*32<=140737488355328 then d a (b++([((an a c.toNat (bs [],bs [],())).2.1,(an a c.toNat (bs [],bs [],())).1,())]:List dK)) (zW zI (c+1)) else none)) else e b
def z141{R:Type}(a:bd)(b:bd->Option R):Option R:=
 b a
def zni:Nat->bd->bd->Int->Option bd
 |0,_,_,_=>none
 |k+1,v0,v1,v2=>Hv v0 v1 v2 (λa0 a1 a2=>zni k a0 a1 a2) (λa0=>some a0)
def u7(a:bd):Option bd:=
 Hu a (λa0 a1 a2=>(zni af a0 a1 a2).bind λe=>z141 e (λa0=>some a0))
def zng{R:Type}(a:bd)(b:bd->Option R):Option R:=
 bif(aa ([]:List dK)+aa a)*32<=140737488355328 then b ([]++a) else none
def sV(a:bd):Option bd:=
 zng a (λa0=>some a0)
def znk{R:Type}(a:bd)(b:Int)(c:ByteArray)(d:bd->Int->ByteArray->Int->Option R):Option R:=
 d a b c 0
def ZC{R:Type}(a:bd)(b:Int)(c:ByteArray)(d:Int)(e:Int->Option R)(f:bd->Int->ByteArray->Int->Option R)(g:Option R):Option R:=
 bif d<b then zd d (aa a) (bif(an a d.toNat (bs [],bs [],())).1=c then e d else f a b c (zW zI (d+1))) else g
def z143{R:Type}(a:Int)(b:Int->Option R):Option R:=
 b a
def Hx{R:Type}(a:Int->Option R):Option R:=
 a (-1:Int)
def Mf:Nat->bd->Int->ByteArray->Int->Option (Sum Int Unit)
 |0,_,_,_,_=>none
 |k+1,v0,v1,v2,v3=>ZC v0 v1 v2 v3 (λa0=>some (.inl a0)) (λa0 a1 a2 a3=>Mf k a0 a1 a2 a3) (some (.inr ()))
def sW(a:bd)(b:Int)(c:ByteArray):Option Int:=
 znk a b c (λa0 a1 a2 a3=>(Mf af a0 a1 a2 a3).bind λe=>GB (λ(we:Int)=>z143 we (λa0=>some a0)) (λ(we:Unit)=>Hx (λa0=>some a0)) e)
def znd{R:Type}(a:bd)(b:ByteArray)(c:ByteArray->Bool->Option R):Option R:=
 (sW a ((aa a):Int) b).bind λr1=>bif r1<0 then c (bs []) false else zd r1 (aa a) (c (an a r1.toNat (bs [],bs [],())).2.1 true)
def pa(a:bd)(b:ByteArray):Option iH:=
 znd a b (λa0 a1=>some (a0,a1))
def znf{R:Type}(a:bd)(b:Int->Int->Option R)(c:bd->Int->Option R):Option R:=
 bif 256<((aa a):Int) then b 5 256 else c a 0
def ZB{R:Type}(a:bd)(b:Int)(c:Int->Int->Option R)(d:bd->Int->Option R)(e:Option R):Option R:=
 bif b<((aa a):Int) then zd b (aa a) ((sW a b (an a b.toNat (bs [],bs [],())).1).bind λr1=>bif 0<=r1 then c 10 b else d a (zW zI (b+1))) else e
def Hs{R:Type}(a b:Int)(c:Int->Int->Option R):Option R:=
 c a b
def Ht{R:Type}(a:Int->Int->Option R):Option R:=
 a 0 0
def Me:Nat->bd->Int->Option (Sum (Int×Int) Unit)
 |0,_,_=>none
 |k+1,v0,v1=>ZB v0 v1 (λa0 a1=>some (.inl (a0,a1))) (λa0 a1=>Me k a0 a1) (some (.inr ()))
def u6(a:bd):Option (Int×Int):=
 znf a (λa0 a1=>some (a0,a1)) (λa0 a1=>(Me af a0 a1).bind λe=>GB (λ(we:(Int×Int))=>Hs we.1 we.2 (λa0 a1=>some (a0,a1))) (λ(we:Unit)=>Ht (λa0 a1=>some (a0,a1))) e)
def zns{R:Type}(a:aN)(b:Bool->Option R)(c:Int->aN->Option R):Option R:=
 bif 1200<(a.2.2.2.1.size:Int) then b true else bif 300<((aa a.2.2.2.2.1):Int) then b true else c 0 a
def ZF{R:Type}(a:Int)(b:aN)(c:Bool->Option R)(d:Int->aN->Option R)(e:Option R):Option R:=
 bif a<((aa b.2.2.2.2.1):Int) then zd a (aa b.2.2.2.2.1) (bif 1200<(((an b.2.2.2.2.1 a.toNat (bs [],bs [],())).1).size:Int) then c true else zd a (aa b.2.2.2.2.1) (bif 1200<(((an b.2.2.2.2.1 a.toNat (bs [],bs [],())).2.1).size:Int) then c true else d (zW zI (a+1)) b)) else e
def HI{R:Type}(a:Bool)(b:Bool->Option R):Option R:=
 b a
def HJ{R:Type}(a:Bool->Option R):Option R:=
 a false
def Cv:Nat->Int->aN->Option (Sum Bool Unit)
 |0,_,_=>none
 |k+1,v0,v1=>ZF v0 v1 (λa0=>some (.inl a0)) (λa0 a1=>Cv k a0 a1) (some (.inr ()))
def pd(a:aN):Option Bool:=
 zns a (λa0=>some a0) (λa0 a1=>(Cv af a0 a1).bind λe=>GB (λ(we:Bool)=>HI we (λa0=>some a0)) (λ(we:Unit)=>HJ (λa0=>some a0)) e)
def znq{R:Type}(a:aN)(b:aN->Option R):Option R:=
 (sV a.2.2.2.2.1).bind λr1=>b (a.1,a.2.1,a.2.2.1,a.2.2.2.1,r1,())
def pc(a:aN):Option aN:=
 znq a (λa0=>some a0)
def N3{R:Type}(a:aN)(b c:ah)(d:Bool->aN->ah->ah->Option R):Option R:=
 bif a.1<1 then d true a b c else d (decide (5<a.1)) a b c
theorem adf{R S:Type}(F:R->Option S)(a)(b)(c)(d):(N3 a b c d).bind F=N3 a b c (λa0 a1 a2 a3=>(d a0 a1 a2 a3).bind F):=by simp only[N3,av]
def HC{R:Type}(a:Bool)(b:aN)(c d:ah)(e:Int->Option R)(f:aN->ah->ah->Option R):Option R:=
 bif a then e 1 else f b c d
def N4{R:Type}(a:aN)(b c:ah)(d:Int->Int->Bool->aN->ah->ah->Option R):Option R:=
 (uy b a.2.1).bind λr1=>(uy c a.2.2.1).bind λr2=>bif a.1=3 then bif !decide (a.2.1=0) then d r1 r2 true a b c else bif !decide (a.1=3) then d r1 r2 (decide (r1<0)) a b c else d r1 r2 false a b c else bif !decide (a.1=3) then d r1 r2 (decide (r1<0)) a b c else d r1 r2 false a b c
theorem adg{R S:Type}(F:R->Option S)(a)(b)(c)(d):(N4 a b c d).bind F=N4 a b c (λa0 a1 a2 a3 a4 a5=>(d a0 a1 a2 a3 a4 a5).bind F):=by simp only[N4,av]
def HD{R:Type}(a b:Int)(c:Bool)(d:aN)(e f:ah)(g:Int->Option R)(h:Int->Int->aN->ah->ah->Option R):Option R:=
 bif c then g 9 else h a b d e f
def N5{R:Type}(a b:Int)(c:aN)(d e:ah)(f:Int->Int->Bool->aN->ah->ah->Option R):Option R:=
 bif c.1=2 then bif !decide (c.2.2.1=0) then f a b true c d e else bif !decide (c.1=2) then f a b (decide (b<0)) c d e else f a b false c d e else bif !decide (c.1=2) then f a b (decide (b<0)) c d e else f a b false c d e
theorem adh{R S:Type}(F:R->Option S)(a)(b)(c)(d)(e)(f):(N5 a b c d e f).bind F=N5 a b c d e (λa0 a1 a2 a3 a4 a5=>(f a0 a1 a2 a3 a4 a5).bind F):=by simp only[N5,av]
def HE{R:Type}(a b:Int)(c:Bool)(d:aN)(e f:ah)(g:Int->Option R)(h:Int->Int->aN->ah->ah->Option R):Option R:=
 bif c then g 9 else h a b d e f
def N6{R:Type}(a b:Int)(c:aN)(d e:ah)(f:Int->Int->Bool->aN->ah->ah->Option R):Option R:=
 bif !decide (c.2.2.2.1=bs []) then bif !decide (c.1=3) then f a b true c d e else bif 0<((aa c.2.2.2.2.1):Int) then f a b (!decide (c.1=5)) c d e else f a b false c d e else bif 0<((aa c.2.2.2.2.1):Int) then f a b (!decide (c.1=5)) c d e else f a b false c d e
theorem adi{R S:Type}(F:R->Option S)(a)(b)(c)(d)(e)(f):(N6 a b c d e f).bind F=N6 a b c d e (λa0 a1 a2 a3 a4 a5=>(f a0 a1 a2 a3 a4 a5).bind F):=by simp only[N6,av]
def HF{R:Type}(a b:Int)(c:Bool)(d:aN)(e f:ah)(g:Int->Option R)(h:Int->Int->aN->ah->ah->Option R):Option R:=
 bif c then g 3 else h a b d e f
def N7{R:Type}(a b:Int)(c:aN)(d e:ah)(f:Int->Option R)(g:Option R)(h:Bool->Option R)(i:Int->Int->Bool->aN->ah->ah->Option R):Option R:=
 bif c.1=1 then zd b (aa e.2.2.1) (zd a (aa d.2.2.1) ((xT (an e.2.2.1 b.toNat (0,0,0,0,0,())) (an d.2.2.1 a.toNat (0,0,0,0,0,()))).bind λr3=>bif !r3 then f 6 else g)) else bif c.1=3 then zd b (aa e.2.2.1) ((kg (an e.2.2.1 b.toNat (0,0,0,0,0,())) c.2.2.2.1).bind λr4=>f r4) else bif c.1=4 then zd a (aa d.2.2.1) (zd b (aa e.2.2.1) (bif !decide ((an d.2.2.1 a.toNat (0,0,0,0,0,())).2.1=1) then h true else bif !decide ((an d.2.2.1 a.toNat (0,0,0,0,0,())).2.2.1=1) then h true else bif !decide ((an e.2.2.1 b.toNat (0,0,0,0,0,())).2.1=1) then h true else h (!decide ((an e.2.2.1 b.toNat (0,0,0,0,0,())).2.2.1=1)))) else bif c.1=5 then(u6 c.2.2.2.2.1).bind λr5=>bif !decide (r5.1=0) then i a b true c d e else i a b (decide (((aa c.2.2.2.2.1):Int)=0)) c d e else g
theorem adj{R S:Type}(F:R->Option S)(a)(b)(c)(d)(e)(f)(g)(h)(i):(N7 a b c d e f g h i).bind F=N7 a b c d e (λa0=>(f a0).bind F) ((g).bind F) (λa0=>(h a0).bind F) (λa0 a1 a2 a3 a4 a5=>(i a0 a1 a2 a3 a4 a5).bind F):=by simp only[N7,av]
def HG{R:Type}(a:Int->Option R):Option R:=
 a 0
def zu3{R:Type}(a:Bool)(b:Int->Option R)(c:Option R):Option R:=
 bif a then b 6 else c
def zu4{R:Type}(a b:Int)(c:Bool)(d:aN)(e f:ah)(g:Int->Option R)(h:Int->Int->aN->ah->ah->Option R):Option R:=
 bif c then g 15 else h a b d e f
def zfp{R:Type}(a b:Int)(c:aN)(d e:ah)(f:Int->Int->Int->aN->ah->ah->Option R):Option R:=
 f a b 0 c d e
def Zl{R:Type}(a b c:Int)(d:aN)(e f:ah)(g:Int->Int->Int->aN->ah->ah->Option R)(h:Option R):Option R:=
 bif c<((aa d.2.2.2.2.1):Int) then g a b c d e f else h
def zfq{R:Type}(a b c:Int)(d:aN)(e f:ah)(g:Int->Option R)(h:Int->Int->Int->aN->ah->ah->Option R):Option R:=
 zd a (aa e.2.2.1) (zd c (aa d.2.2.2.2.1) ((kg (an e.2.2.1 a.toNat (0,0,0,0,0,())) (an d.2.2.2.2.1 c.toNat (bs [],bs [],())).1).bind λr6=>bif !decide (r6=0) then g r6 else h a b c d e f))
def zu5{R:Type}(a:Option R):Option R:=
 a
def zu6{R:Type}(a:Int)(b:Int->Option R):Option R:=
 b a
def zfr{R:Type}(a b c:Int)(d:aN)(e f:ah)(g:Int->Option R)(h:Int->Int->Int->aN->ah->ah->Option R):Option R:=
 zd b (aa f.2.2.1) (zd c (aa d.2.2.2.2.1) ((kg (an f.2.2.1 b.toNat (0,0,0,0,0,())) (an d.2.2.2.2.1 c.toNat (bs [],bs [],())).2.1).bind λr7=>bif !decide (r7=0) then g r7 else h a b c d e f))
def zfs{R:Type}(a b c:Int)(d:aN)(e f:ah)(g:Int->Int->Int->aN->ah->ah->Option R):Option R:=
 g a b (zW zI (c+1)) d e f
def yl:Nat->Int->Int->Int->aN->ah->ah->Option (Sum Unit Int)
 |0,_,_,_,_,_,_=>none
 |k+1,v0,v1,v2,v3,v4,v5=>Zl v0 v1 v2 v3 v4 v5 (λa0 a1 a2 a3 a4 a5=>zfq a0 a1 a2 a3 a4 a5 (λa0=>some (.inr a0)) (λa0 a1 a2 a3 a4 a5=>zfr a0 a1 a2 a3 a4 a5 (λa0=>some (.inr a0)) (λa0 a1 a2 a3 a4 a5=>zfs a0 a1 a2 a3 a4 a5 (λa0 a1 a2 a3 a4 a5=>yl k a0 a1 a2 a3 a4 a5)))) (some (.inl ()))
def znp:Option Int:=
 HG (λa0=>some a0)
def HB(a:Bool):Option Int:=
 zu3 a (λa0=>some a0) znp
def Zk(a b:Int)(c:aN)(d f:ah):Option Int:=
 zfp a b c d f (λa0 a1 a2 a3 a4 a5=>(yl af a0 a1 a2 a3 a4 a5).bind λe=>GB (λ(we:Unit)=>zu5 znp) (λ(we:Int)=>zu6 we (λa0=>some a0)) e)
def zu2(a b:Int)(c:Bool)(d:aN)(e f:ah):Option Int:=
 zu4 a b c d e f (λa0=>some a0) (λa0 a1 a2 a3 a4=>Zk a0 a1 a2 a3 a4)
def ZE(a b:Int)(c:aN)(d e:ah):Option Int:=
 N7 a b c d e (λa0=>some a0) znp (λa0=>HB a0) (λa0 a1 a2 a3 a4 a5=>zu2 a0 a1 a2 a3 a4 a5)
def HA(a b:Int)(c:Bool)(d:aN)(e f:ah):Option Int:=
 HF a b c d e f (λa0=>some a0) (λa0 a1 a2 a3 a4=>ZE a0 a1 a2 a3 a4)
def Mg(a b:Int)(c:aN)(d e:ah):Option Int:=
 N6 a b c d e (λa0 a1 a2 a3 a4 a5=>HA a0 a1 a2 a3 a4 a5)
def Hz(a b:Int)(c:Bool)(d:aN)(e f:ah):Option Int:=
 HE a b c d e f (λa0=>some a0) (λa0 a1 a2 a3 a4=>Mg a0 a1 a2 a3 a4)
def ZD(a b:Int)(c:aN)(d e:ah):Option Int:=
 N5 a b c d e (λa0 a1 a2 a3 a4 a5=>Hz a0 a1 a2 a3 a4 a5)
def Fw(a b:Int)(c:Bool)(d:aN)(e f:ah):Option Int:=
 HD a b c d e f (λa0=>some a0) (λa0 a1 a2 a3 a4=>ZD a0 a1 a2 a3 a4)
def zno(a:aN)(b c:ah):Option Int:=
 N4 a b c (λa0 a1 a2 a3 a4 a5=>Fw a0 a1 a2 a3 a4 a5)
def Hy(a:Bool)(b:aN)(c d:ah):Option Int:=
 HC a b c d (λa0=>some a0) (λa0 a1 a2=>zno a0 a1 a2)
def va(a:aN)(b c:ah):Option Int:=
 N3 a b c (λa0 a1 a2 a3=>Hy a0 a1 a2 a3)
def znl{R:Type}(a:aN)(b:ah)(c:ByteArray)(d:aT->Int->Option R):Option R:=
 bif a.1=1 then d (a.2.2.1,c,()) 0 else bif a.1=2 then d (0,bs [],()) 0 else bif a.1=3 then d (a.2.2.1,a.2.2.2.1,()) 0 else bif a.1=4 then(uy b a.2.2.1).bind λr1=>bif r1<0 then d (0,bs [],()) 9 else zd r1 (aa b.2.2.1) ((Pz c (an b.2.2.1 r1.toNat (0,0,0,0,0,())).2.2.2.1).bind λr2=>bif !r2.2 then d (0,bs [],()) 5 else d (a.2.2.1,r2.1,()) 0) else bif a.1=5 then(pa a.2.2.2.2.1 c).bind λr3=>bif !r3.2 then d (0,bs [],()) 15 else d (a.2.2.1,r3.1,()) 0 else d (0,bs [],()) 1
def ns(a:aN)(b:ah)(c:ByteArray):Option (aT×Int):=
 znl a b c (λa0 a1=>some (a0,a1))
def zo3{R:Type}(a:az)(b:Bool->Option R)(c:Int->az->Option R):Option R:=
 bif 300<((aa a.1):Int) then b true else bif 300<((aa a.2.1):Int) then b true else c 0 a
def ZL{R:Type}(a:Int)(b:az)(c:Bool->az->Option R)(d:Int->az->Option R)(e:az->Option R):Option R:=
 bif a<((aa b.1):Int) then zd a (aa b.1) (bif 100<(((an b.1 a.toNat (bs [],bs [],())).1).size:Int) then c true b else zd a (aa b.1) (bif 100<(((an b.1 a.toNat (bs [],bs [],())).2.1).size:Int) then c true b else d (zW zI (a+1)) b)) else e b
def HV{R:Type}(a:Bool)(b:az)(c:Bool->Option R):Option R:=
 c a
def zo4{R:Type}(a:az)(b:Int->az->Option R):Option R:=
 b 0 a
def HW{R:Type}(a:Int)(b:az)(c:Bool->Option R)(d:Int->az->Option R)(e:Option R):Option R:=
 bif a<((aa b.2.1):Int) then zd a (aa b.2.1) ((pd (an b.2.1 a.toNat (0,0,0,bs [],[],()))).bind λr1=>bif r1 then c true else d (zW zI (a+1)) b) else e
def HX{R:Type}(a:Bool)(b:Bool->Option R):Option R:=
 b a
def HY{R:Type}(a:Bool->Option R):Option R:=
 a false
def Cw:Nat->Int->az->Option (Sum (Bool×az) az)
 |0,_,_=>none
 |k+1,v0,v1=>ZL v0 v1 (λa0 a1=>some (.inl (a0,a1))) (λa0 a1=>Cw k a0 a1) (λa0=>some (.inr a0))
def ZK:Nat->Int->az->Option (Sum Bool Unit)
 |0,_,_=>none
 |k+1,v0,v1=>HW v0 v1 (λa0=>some (.inl a0)) (λa0 a1=>ZK k a0 a1) (some (.inr ()))
def mK(a:az):Option Bool:=
 zo3 a (λa0=>some a0) (λa0 a1=>(Cw af a0 a1).bind λe=>GB (λ(we:(Bool×az))=>HV we.1 we.2 (λa0=>some a0)) (λ(we:az)=>zo4 we (λa0 a1=>(ZK af a0 a1).bind λe=>GB (λ(we:Bool)=>HX we (λa0=>some a0)) (λ(we:Unit)=>HY (λa0=>some a0)) e)) e)
def zo0{R:Type}(a:az)(b:Int->az->az->az->Option R):Option R:=
 (sV a.1).bind λr1=>b 0 a ([],[],()) (r1,[],())
def HR{R:Type}(a:Int)(b c d:az)(e:Int->az->az->az->Option R)(f:az->az->Option R):Option R:=
 bif a<((aa b.2.1):Int) then zd a (aa b.2.1) ((pc (an b.2.1 a.toNat (0,0,0,bs [],[],()))).bind λr2=>bif(aa d.2.1+aa ([r2]:List aN))*64<=140737488355328 then e (zW zI (a+1)) b c (d.1,d.2.1++([r2]:List aN),()) else none) else f c d
def HS{R:Type}(a b:az)(c:az->Option R):Option R:=
 c b
def ZJ:Nat->Int->az->az->az->Option (az×az)
 |0,_,_,_,_=>none
 |k+1,v0,v1,v2,v3=>HR v0 v1 v2 v3 (λa0 a1 a2 a3=>ZJ k a0 a1 a2 a3) (λa0 a1=>some (a0,a1))
def vd(a:az):Option az:=
 zo0 a (λa0 a1 a2 a3=>(ZJ af a0 a1 a2 a3).bind λe=>HS e.1 e.2 (λa0=>some a0))
def zoh{R:Type}(a:ByteArray)(b:Int)(c:Bool->Option R):Option R:=
 (kH a).bind λr1=>bif r1 then zd 0 a.size (c (decide (zW zI (zW zI (ze a ((0:Int)).toNat)-48)=b))) else c false
def sZ(a:ByteArray)(b:Int):Option Bool:=
 zoh a b (λa0=>some a0)
def zog{R:Type}(a b:aN)(c:Bool->Option R):Option R:=
 bif !decide (a.2.1=0) then bif a.2.1=b.2.1 then c true else bif !decide (a.2.2.1=0) then c (decide (a.2.2.1=b.2.2.1)) else c false else bif !decide (a.2.2.1=0) then c (decide (a.2.2.1=b.2.2.1)) else c false
def vf(a b:aN):Option Bool:=
 zog a b (λa0=>some a0)
def znw{R:Type}(a:az)(b c:ah)(d:Int->Int->Int->Option R)(e:Int->az->ah->ah->Option R):Option R:=
 (yQ b).bind λr1=>bif !r1 then d 1 1 0 else(yQ c).bind λr2=>bif !r2 then d 1 1 1 else bif 256<((aa a.1):Int) then d 5 2 256 else e 0 a b c
def ZG{R:Type}(a:Int)(b:az)(c d:ah)(e:Int->Int->Int->az->ah->ah->Option R)(f:Int->az->ah->ah->Option R)(g:az->ah->ah->Option R):Option R:=
 bif a<((aa b.1):Int) then zd a (aa b.1) ((sZ (an b.1 a.toNat (bs [],bs [],())).1 c.2.1).bind λr3=>bif !r3 then e 7 2 a b c d else(sZ (an b.1 a.toNat (bs [],bs [],())).2.1 d.2.1).bind λr4=>bif !r4 then e 7 2 a b c d else(F5 (an b.1 a.toNat (bs [],bs [],())).1).bind λr5=>(F5 (an b.1 a.toNat (bs [],bs [],())).2.1).bind λr6=>bif !(r5==r6) then e 7 2 a b c d else bif 0<=a then bif a<=(((aa b.1):Nat):Int) then(pa (List.drop 0 (List.take a.toNat b.1)) (an b.1 a.toNat (bs [],bs [],())).1).bind λr7=>bif r7.2 then e 10 2 a b c d else f (zW zI (a+1)) b c d else none else none) else g b c d
def HN{R:Type}(a b c:Int)(d:az)(e f:ah)(g:Int->Int->Int->Option R):Option R:=
 g a b c
def znx{R:Type}(a:az)(b c:ah)(d:Int->Int->Int->Option R)(e:Int->az->ah->ah->Option R):Option R:=
 bif 256<((aa a.2.1):Int) then d 5 3 256 else e 0 a b c
def ZH{R:Type}(a:Int)(b:az)(c d:ah)(e:Int->Int->Int->Option R)(f:Int->Int->az->ah->ah->Option R)(g:Option R):Option R:=
 bif a<((aa b.2.1):Int) then zd a (aa b.2.1) ((va (an b.2.1 a.toNat (0,0,0,bs [],[],())) c d).bind λr8=>bif !decide (r8=0) then e r8 3 a else f a 0 b c d) else g
def HO{R:Type}(a b c:Int)(d:Int->Int->Int->Option R):Option R:=
 d a b c
def HP{R:Type}(a:Int->Int->Int->Option R):Option R:=
 a 0 0 0
def ZI{R:Type}(a b:Int)(c:az)(d e:ah)(f:Int->Int->Int->Int->az->ah->ah->Option R)(g:Int->Int->az->ah->ah->Option R)(h:Int->az->ah->ah->Option R):Option R:=
 bif b<a then zd b (aa c.2.1) (zd a (aa c.2.1) ((vf (an c.2.1 b.toNat (0,0,0,bs [],[],())) (an c.2.1 a.toNat (0,0,0,bs [],[],()))).bind λr9=>bif r9 then f 10 3 a a c d e else g a (zW zI (b+1)) c d e)) else h a c d e
def HQ{R:Type}(a b c d:Int)(e:az)(f g:ah)(h:Int->Int->Int->Option R):Option R:=
 h a b c
def zny{R:Type}(a:Int)(b:az)(c d:ah)(e:Int->az->ah->ah->Option R):Option R:=
 e (zW zI (a+1)) b c d
def Mh:Nat->Int->az->ah->ah->Option (Sum mS mR)
 |0,_,_,_,_=>none
 |k+1,v0,v1,v2,v3=>ZG v0 v1 v2 v3 (λa0 a1 a2 a3 a4 a5=>some (.inl (a0,a1,a2,a3,a4,a5))) (λa0 a1 a2 a3=>Mh k a0 a1 a2 a3) (λa0 a1 a2=>some (.inr (a0,a1,a2)))
def Mj:Nat->Int->Int->az->ah->ah->Option (Sum (Int×Int×Int×Int×az×ah×ah) (Int×az×ah×ah))
 |0,_,_,_,_,_=>none
 |k+1,v0,v1,v2,v3,v4=>ZI v0 v1 v2 v3 v4 (λa0 a1 a2 a3 a4 a5 a6=>some (.inl (a0,a1,a2,a3,a4,a5,a6))) (λa0 a1 a2 a3 a4=>Mj k a0 a1 a2 a3 a4) (λa0 a1 a2 a3=>some (.inr (a0,a1,a2,a3)))
def Mi:Nat->Int->az->ah->ah->Option (Sum jy Unit)
 |0,_,_,_,_=>none
 |k+1,v0,v1,v2,v3=>ZH v0 v1 v2 v3 (λa0 a1 a2=>some (.inl (a0,a1,a2))) (λa0 a1 a2 a3 a4=>(Mj af a0 a1 a2 a3 a4).bind λe=>GB (λ(we:(Int×Int×Int×Int×az×ah×ah))=>HQ we.1 we.2.1 we.2.2.1 we.2.2.2.1 we.2.2.2.2.1 we.2.2.2.2.2.1 we.2.2.2.2.2.2 (λa0 a1 a2=>some (.inl (a0,a1,a2)))) (λ(we:(Int×az×ah×ah))=>zny we.1 we.2.1 we.2.2.1 we.2.2.2 (λa0 a1 a2 a3=>Mi k a0 a1 a2 a3)) e) (some (.inr ()))
def sX(a:az)(b c:ah):Option jy:=
 znw a b c (λa0 a1 a2=>some (a0,a1,a2)) (λa0 a1 a2 a3=>(Mh af a0 a1 a2 a3).bind λe=>GB (λ(we:mS)=>HN we.1 we.2.1 we.2.2.1 we.2.2.2.1 we.2.2.2.2.1 we.2.2.2.2.2 (λa0 a1 a2=>some (a0,a1,a2))) (λ(we:mR)=>znx we.1 we.2.1 we.2.2 (λa0 a1 a2=>some (a0,a1,a2)) (λa0 a1 a2 a3=>(Mi af a0 a1 a2 a3).bind λe=>GB (λ(we:jy)=>HO we.1 we.2.1 we.2.2 (λa0 a1 a2=>some (a0,a1,a2))) (λ(we:Unit)=>HP (λa0 a1 a2=>some (a0,a1,a2))) e)) e)
def zo5{R:Type}(a:az)(b c:ah)(d:Bool->Option R):Option R:=
 (sX a b c).bind λr1=>d (decide (r1.1=0))
def ve(a:az)(b c:ah):Option Bool:=
 zo5 a b c (λa0=>some a0)
def zof{R:Type}(a:az)(b:Int)(c:Int->Int->az->Option R):Option R:=
 c b 0 a
def H3{R:Type}(a b:Int)(c:az)(d:Int->Option R)(e:Int->Int->az->Option R)(f:Option R):Option R:=
 bif b<((aa c.2.1):Int) then zd b (aa c.2.1) (bif(an c.2.1 b.toNat (0,0,0,bs [],[],())).2.1=a then d b else e a (zW zI (b+1)) c) else f
def z154{R:Type}(a:Int)(b:Int->Option R):Option R:=
 b a
def H4{R:Type}(a:Int->Option R):Option R:=
 a (-1:Int)
def ZQ:Nat->Int->Int->az->Option (Sum Int Unit)
 |0,_,_,_=>none
 |k+1,v0,v1,v2=>H3 v0 v1 v2 (λa0=>some (.inl a0)) (λa0 a1 a2=>ZQ k a0 a1 a2) (some (.inr ()))
def nu(a:az)(b:Int):Option Int:=
 zof a b (λa0 a1 a2=>(ZQ af a0 a1 a2).bind λe=>GB (λ(we:Int)=>z154 we (λa0=>some a0)) (λ(we:Unit)=>H4 (λa0=>some a0)) e)
def zoa{R:Type}(a:az)(b c:ah)(d:ag)(e:ag->aH->Option R)(f:ByteArray->al->Int->az->ah->ag->ag->aH->ag->Option R):Option R:=
 (ve a b c).bind λr1=>bif !r1 then e (bs [],[],()) (1,(-1:Int),()) else(uV b d).bind λr2=>bif !decide (r2.1=0) then e (bs [],[],()) r2 else(pa a.1 d.1).bind λr3=>bif !r3.2 then e (bs [],[],()) (7,0,()) else f r3.1 [] 0 a c d (bs [],[],()) (0,0,()) (bs [],[],())
def ZM{R:Type}(a:ByteArray)(b:al)(c:Int)(d:az)(e:ah)(f g:ag)(h:aH)(i:ag)(j:ByteArray->al->az->ag->aH->Option R)(l:ByteArray->al->Int->az->ah->ag->ag->aH->ag->Option R)(m:ByteArray->al->az->ag->aH->Option R):Option R:=
 bif c<((aa f.2.1):Int) then zd c (aa f.2.1) ((nu d (an f.2.1 c.toNat (0,bs [],())).1).bind λr4=>bif r4<0 then zd c (aa f.2.1) (j a b d i (9,(an f.2.1 c.toNat (0,bs [],())).1,())) else zd r4 (aa d.2.1) (zd c (aa f.2.1) ((ns (an d.2.1 r4.toNat (0,0,0,bs [],[],())) e (an f.2.1 c.toNat (0,bs [],())).2.1).bind λr5=>bif !decide (r5.2=0) then zd c (aa f.2.1) (j a b d i (r5.2,(an f.2.1 c.toNat (0,bs [],())).1,())) else bif(aa b+aa ([r5.1]:List aT))*24<=140737488355328 then l a (b++([r5.1]:List aT)) (zW zI (c+1)) d e f g h i else none))) else m a b d g h
def H0{R:Type}(a:ByteArray)(b:al)(c:az)(d:ag)(e:aH)(f:ag->aH->Option R):Option R:=
 f d e
def zob{R:Type}(a:ByteArray)(b:al)(c:az)(d:ag)(e:aH)(f:ByteArray->al->Int->az->ag->aH->Option R):Option R:=
 f a b 0 c d e
def ZN{R:Type}(a:ByteArray)(b:al)(c:Int)(d:az)(e:ag)(f:aH)(g:ByteArray->al->Int->az->ag->aH->Option R)(h:ByteArray->al->ag->aH->Option R):Option R:=
 bif c<((aa d.2.1):Int) then zd c (aa d.2.1) (bif(an d.2.1 c.toNat (0,0,0,bs [],[],())).1=3 then zd c (aa d.2.1) (zd c (aa d.2.1) (bif(aa b+aa ([((an d.2.1 c.toNat ((0:Int),(0:Int),(0:Int),bs [],([]:List dK),())).2.2.1,(an d.2.1 c.toNat ((0:Int),(0:Int),(0:Int),bs [],([]:List dK),())).2.2.2.1,())]:List aT))*24<=140737488355328 then g a (b++([((an d.2.1 c.toNat (0,0,0,bs [],[],())).2.2.1,(an d.2.1 c.toNat (0,0,0,bs [],[],())).2.2.2.1,())]:List aT)) (zW zI (c+1)) d e f else none)) else g a b (zW zI (c+1)) d e f) else h a b e f
def zoc{R:Type}(a:ByteArray)(b:al)(c:ag)(d:aH)(e:al->Int->ag->aH->ag->Option R):Option R:=
 e b 2 c d (a,[],())
def ZO{R:Type}(a:al)(b:Int)(c:ag)(d:aH)(e:ag)(f:al->Int->Int->ag->aH->ag->Option R)(g:ag->aH->ag->Option R):Option R:=
 bif b<=128 then f a b 0 c d e else g c d e
def H2{R:Type}(a:ag)(b:aH)(c:ag)(d:ag->aH->Option R):Option R:=
 d c (0,0,())
def ZP{R:Type}(a:al)(b c:Int)(d:ag)(e:aH)(f:ag)(g:al->Int->Int->ag->aH->ag->Option R)(h:al->Int->ag->aH->ag->Option R):Option R:=
 bif c<((aa a):Int) then zd c (aa a) (bif(an a c.toNat (0,bs [],())).1=b then zd c (aa a) (bif(aa f.2.1+aa ([(an a c.toNat ((0:Int),bs [],()))]:List aT))*24<=140737488355328 then g a b (zW zI (c+1)) d e (f.1,f.2.1++([(an a c.toNat (0,bs [],()))]:List aT),()) else none) else g a b (zW zI (c+1)) d e f) else h a b d e f
def zod{R:Type}(a:al)(b:Int)(c:ag)(d:aH)(e:ag)(f:al->Int->ag->aH->ag->Option R):Option R:=
 f a (zW zI (b+1)) c d e
def Cx:Nat->ByteArray->al->Int->az->ah->ag->ag->aH->ag->Option (Sum tv tv)
 |0,_,_,_,_,_,_,_,_,_=>none
 |k+1,v0,v1,v2,v3,v4,v5,v6,v7,v8=>ZM v0 v1 v2 v3 v4 v5 v6 v7 v8 (λa0 a1 a2 a3 a4=>some (.inl (a0,a1,a2,a3,a4))) (λa0 a1 a2 a3 a4 a5 a6 a7 a8=>Cx k a0 a1 a2 a3 a4 a5 a6 a7 a8) (λa0 a1 a2 a3 a4=>some (.inr (a0,a1,a2,a3,a4)))
def Cy:Nat->ByteArray->al->Int->az->ag->aH->Option (ByteArray×al×ag×aH)
 |0,_,_,_,_,_,_=>none
 |k+1,v0,v1,v2,v3,v4,v5=>ZN v0 v1 v2 v3 v4 v5 (λa0 a1 a2 a3 a4 a5=>Cy k a0 a1 a2 a3 a4 a5) (λa0 a1 a2 a3=>some (a0,a1,a2,a3))
def ym:Nat->al->Int->Int->ag->aH->ag->Option (al×Int×ag×aH×ag)
 |0,_,_,_,_,_,_=>none
 |k+1,v0,v1,v2,v3,v4,v5=>ZP v0 v1 v2 v3 v4 v5 (λa0 a1 a2 a3 a4 a5=>ym k a0 a1 a2 a3 a4 a5) (λa0 a1 a2 a3 a4=>some (a0,a1,a2,a3,a4))
def Mk:Nat->al->Int->ag->aH->ag->Option pE
 |0,_,_,_,_,_=>none
 |k+1,v0,v1,v2,v3,v4=>ZO v0 v1 v2 v3 v4 (λa0 a1 a2 a3 a4 a5=>(ym af a0 a1 a2 a3 a4 a5).bind λe=>zod e.1 e.2.1 e.2.2.1 e.2.2.2.1 e.2.2.2.2 (λa0 a1 a2 a3 a4=>Mk k a0 a1 a2 a3 a4)) (λa0 a1 a2=>some (a0,a1,a2))
def sY(a:az)(b c:ah)(d:ag):Option wh:=
 zoa a b c d (λa0 a1=>some (a0,a1)) (λa0 a1 a2 a3 a4 a5 a6 a7 a8=>(Cx af a0 a1 a2 a3 a4 a5 a6 a7 a8).bind λe=>GB (λ(we:tv)=>H0 we.1 we.2.1 we.2.2.1 we.2.2.2.1 we.2.2.2.2 (λa0 a1=>some (a0,a1))) (λ(we:tv)=>zob we.1 we.2.1 we.2.2.1 we.2.2.2.1 we.2.2.2.2 (λa0 a1 a2 a3 a4 a5=>(Cy af a0 a1 a2 a3 a4 a5).bind λe=>zoc e.1 e.2.1 e.2.2.1 e.2.2.2 (λa0 a1 a2 a3 a4=>(Mk af a0 a1 a2 a3 a4).bind λe=>H2 e.1 e.2.1 e.2.2 (λa0 a1=>some (a0,a1))))) e)
def zot{R:Type}(a:ay)(b:Bool->Option R)(c:Int->ay->Option R):Option R:=
 bif 200<((aa a.1.2.2.1):Int) then b true else bif 300<((aa a.2.2.1):Int) then b true else bif 300<((aa a.2.2.2.1):Int) then b true else c 0 a
def H7{R:Type}(a:Int)(b:ay)(c:Bool->Option R)(d:Int->ay->Option R)(e:Option R):Option R:=
 bif a<((aa b.2.2.2.1):Int) then zd a (aa b.2.2.2.1) (bif 1200<(((an b.2.2.2.1 a.toNat (0,bs [],())).2.1).size:Int) then c true else d (zW zI (a+1)) b) else e
def H8{R:Type}(a:Bool)(b:Bool->Option R):Option R:=
 b a
def H9{R:Type}(a:Bool->Option R):Option R:=
 a false
def ZU:Nat->Int->ay->Option (Sum Bool Unit)
 |0,_,_=>none
 |k+1,v0,v1=>H7 v0 v1 (λa0=>some (.inl a0)) (λa0 a1=>ZU k a0 a1) (some (.inr ()))
def nv(a:ay):Option Bool:=
 zot a (λa0=>some a0) (λa0 a1=>(ZU af a0 a1).bind λe=>GB (λ(we:Bool)=>H8 we (λa0=>some a0)) (λ(we:Unit)=>H9 (λa0=>some a0)) e)
def zor{R:Type}(a:ay)(b:ay->Option R):Option R:=
 (PK a.1).bind λr1=>bif(aa ([]:List Int)+aa a.2.2.1)*8<=140737488355328 then bif(aa ([]:List aT)+aa a.2.2.2.1)*24<=140737488355328 then b (r1,a.2.1,[]++a.2.2.1,[]++a.2.2.2.1,()) else none else none
def vj(a:ay):Option ay:=
 zor a (λa0=>some a0)
def ZV{R:Type}(a:al)(b c:Int)(d:al->Int->Int->Int->Option R):Option R:=
 d a b c 0
def Mo{R:Type}(a:al)(b c d:Int)(e:Int->Option R)(f:al->Int->Int->Int->Option R)(g:Option R):Option R:=
 bif d<b then zd d (aa a) (bif(an a d.toNat (0,bs [],())).1=c then e d else f a b c (zW zI (d+1))) else g
def Ib{R:Type}(a:Int)(b:Int->Option R):Option R:=
 b a
def Ic{R:Type}(a:Int->Option R):Option R:=
 a (-1:Int)
def yn:Nat->al->Int->Int->Int->Option (Sum Int Unit)
 |0,_,_,_,_=>none
 |k+1,v0,v1,v2,v3=>Mo v0 v1 v2 v3 (λa0=>some (.inl a0)) (λa0 a1 a2 a3=>yn k a0 a1 a2 a3) (some (.inr ()))
def lK(a:al)(b c:Int):Option Int:=
 ZV a b c (λa0 a1 a2 a3=>(yn af a0 a1 a2 a3).bind λe=>GB (λ(we:Int)=>Ib we (λa0=>some a0)) (λ(we:Unit)=>Ic (λa0=>some a0)) e)
def zon{R:Type}(a:ay)(b:Int->Int->Int->Option R)(c:Int->Int->ay->Option R):Option R:=
 (yQ a.1).bind λr1=>bif !r1 then b 1 1 0 else(uy a.1 (39:Int)).bind λr2=>bif r2<0 then b 9 1 1 else c r2 0 a
def ZS{R:Type}(a b:Int)(c:ay)(d:Int->Int->Int->Int->ay->Option R)(e:Int->Int->ay->Option R)(f:Int->ay->Option R):Option R:=
 bif b<((aa c.2.2.1):Int) then zd b (aa c.2.2.1) ((uy c.1 (an c.2.2.1 b.toNat (0:Int))).bind λr3=>bif r3<0 then d 9 2 b a c else zd b (aa c.2.2.1) (bif an c.2.2.1 b.toNat 0=39 then d 1 2 b a c else bif 0<=b then bif b<=(((aa c.2.2.1):Nat):Int) then zd b (aa c.2.2.1) ((xQ (List.drop 0 (List.take b.toNat c.2.2.1)) (an c.2.2.1 b.toNat (0:Int))).bind λr4=>bif r4 then d 10 2 b a c else e a (zW zI (b+1)) c) else none else none)) else f a c
def H5{R:Type}(a b c d:Int)(e:ay)(f:Int->Int->Int->Option R):Option R:=
 f a b c
def zoo{R:Type}(a:Int)(b:ay)(c:Int->Int->ay->Option R):Option R:=
 c a 0 b
def ZT{R:Type}(a b:Int)(c:ay)(d:Int->Int->Int->ay->Option R)(e:Int->Int->ay->Option R)(f:ay->Option R):Option R:=
 bif b<((aa c.2.2.2.1):Int) then zd b (aa c.2.2.2.1) (bif(an c.2.2.2.1 b.toNat (0,bs [],())).1<0 then d 1 3 b c else zd b (aa c.2.2.2.1) (bif 16<(an c.2.2.2.1 b.toNat (0,bs [],())).1 then d 1 3 b c else zd b (aa c.2.2.2.1) ((lK c.2.2.2.1 b (an c.2.2.2.1 b.toNat (0,bs [],())).1).bind λr5=>bif 0<=r5 then d 10 3 b c else zd a (aa c.1.2.2.1) (zd b (aa c.2.2.2.1) ((kg (an c.1.2.2.1 a.toNat (0,0,0,0,0,())) (an c.2.2.2.1 b.toNat (0,bs [],())).2.1).bind λr6=>bif !decide (r6=0) then d r6 3 b c else e a (zW zI (b+1)) c))))) else f c
def z159{R:Type}(a b c:Int)(d:ay)(e:Int->Int->Int->Option R):Option R:=
 e a b c
def zop{R:Type}(a:ay)(b:Int->Int->Int->Option R):Option R:=
 (lK a.2.2.2.1 ((aa a.2.2.2.1):Int) (0:Int)).bind λr7=>bif r7<0 then b 15 3 ((aa a.2.2.2.1):Int) else b 0 0 0
def Mm:Nat->Int->Int->ay->Option (Sum (Int×Int×Int×Int×ay) (Int×ay))
 |0,_,_,_=>none
 |k+1,v0,v1,v2=>ZS v0 v1 v2 (λa0 a1 a2 a3 a4=>some (.inl (a0,a1,a2,a3,a4))) (λa0 a1 a2=>Mm k a0 a1 a2) (λa0 a1=>some (.inr (a0,a1)))
def Mn:Nat->Int->Int->ay->Option (Sum (Int×Int×Int×ay) ay)
 |0,_,_,_=>none
 |k+1,v0,v1,v2=>ZT v0 v1 v2 (λa0 a1 a2 a3=>some (.inl (a0,a1,a2,a3))) (λa0 a1 a2=>Mn k a0 a1 a2) (λa0=>some (.inr a0))
def vh(a:ay):Option jy:=
 zon a (λa0 a1 a2=>some (a0,a1,a2)) (λa0 a1 a2=>(Mm af a0 a1 a2).bind λe=>GB (λ(we:(Int×Int×Int×Int×ay))=>H5 we.1 we.2.1 we.2.2.1 we.2.2.2.1 we.2.2.2.2 (λa0 a1 a2=>some (a0,a1,a2))) (λ(we:(Int×ay))=>zoo we.1 we.2 (λa0 a1 a2=>(Mn af a0 a1 a2).bind λe=>GB (λ(we:(Int×Int×Int×ay))=>z159 we.1 we.2.1 we.2.2.1 we.2.2.2 (λa0 a1 a2=>some (a0,a1,a2))) (λ(we:ay)=>zop we (λa0 a1 a2=>some (a0,a1,a2))) e)) e)
def zoq{R:Type}(a:ay)(b:Int)(c:ByteArray->Option R):Option R:=
 (lK a.2.2.2.1 ((aa a.2.2.2.1):Int) b).bind λr1=>bif r1<0 then(lK a.2.2.2.1 ((aa a.2.2.2.1):Int) (0:Int)).bind λr2=>bif r2<0 then c (bs []) else zd r2 (aa a.2.2.2.1) (c (an a.2.2.2.1 r2.toNat (0,bs [],())).2.1) else bif r1<0 then c (bs []) else zd r1 (aa a.2.2.2.1) (c (an a.2.2.2.1 r1.toNat (0,bs [],())).2.1)
def vi(a:ay)(b:Int):Option ByteArray:=
 zoq a b (λa0=>some a0)
def zoj{R:Type}(a:ay)(b:ag)(c:aH)(d:ag->Bool->Option R)(e:Int->ay->ag->aH->ag->ag->Option R):Option R:=
 (F5 b.1).bind λr1=>bif !r1 then d (bs [],[],()) false else(uU b.1).bind λr2=>e 0 a b c (bs [],[],()) (r2,[],())
def ZR{R:Type}(a:Int)(b:ay)(c:ag)(d:aH)(e f:ag)(g:Int->ay->ag->aH->ag->ag->Option R)(h:ay->aH->ag->ag->Option R):Option R:=
 bif a<((aa b.2.2.1):Int) then zd a (aa b.2.2.1) ((uW c (an b.2.2.1 a.toNat (0:Int))).bind λr3=>bif 0<=r3 then zd a (aa b.2.2.1) (zd r3 (aa c.2.1) ((sT f (an b.2.2.1 a.toNat 0) (an c.2.1 r3.toNat (0,bs [],())).2.1).bind λr4=>g (zW zI (a+1)) b c d e r4)) else g (zW zI (a+1)) b c d e f) else h b d e f
def zok{R:Type}(a:ay)(b:aH)(c d:ag)(e:ag->Bool->Option R):Option R:=
 (vi a b.1).bind λr5=>(sT d 39 r5).bind λr6=>e r6 true
def Ml:Nat->Int->ay->ag->aH->ag->ag->Option (ay×aH×ag×ag)
 |0,_,_,_,_,_,_=>none
 |k+1,v0,v1,v2,v3,v4,v5=>ZR v0 v1 v2 v3 v4 v5 (λa0 a1 a2 a3 a4 a5=>Ml k a0 a1 a2 a3 a4 a5) (λa0 a1 a2 a3=>some (a0,a1,a2,a3))
def vg(a:ay)(b:ag)(c:aH):Option (ag×Bool):=
 zoj a b c (λa0 a1=>some (a0,a1)) (λa0 a1 a2 a3 a4 a5=>(Ml af a0 a1 a2 a3 a4 a5).bind λe=>zok e.1 e.2.1 e.2.2.1 e.2.2.2 (λa0 a1=>some (a0,a1)))
def Ip{R:Type}(a:(List ByteArray))(b:(List ByteArray)->bd->Int->Option R):Option R:=
 b a [] 0
def Iq{R:Type}(a:(List ByteArray))(b:bd)(c:Int)(d:(List ByteArray)->bd->Int->Option R)(e:bd->Option R):Option R:=
 bif c<((aa a):Int) then zd c (aa a) (zd (zW zI (c+1)) (aa a) (bif(aa b+aa ([(an a c.toNat (bs []),an a (zW zI (c+(1:Int))).toNat (bs []),())]:List dK))*32<=140737488355328 then d a (b++([(an a c.toNat (bs []),an a (zW zI (c+(1:Int))).toNat (bs []),())]:List dK)) (zW zI (c+2)) else none)) else e b
def Ir{R:Type}(a:bd)(b:bd->Option R):Option R:=
 b a
def zp6:Nat->(List ByteArray)->bd->Int->Option bd
 |0,_,_,_=>none
 |k+1,v0,v1,v2=>Iq v0 v1 v2 (λa0 a1 a2=>zp6 k a0 a1 a2) (λa0=>some a0)
def vn(a:(List ByteArray)):Option bd:=
 Ip a (λa0 a1 a2=>(zp6 af a0 a1 a2).bind λe=>Ir e (λa0=>some a0))
def Il{R:Type}(a:cJ->(List Int)->Int->Option R):Option R:=
 Q96.bind λr1=>a [] r1 0
def Im{R:Type}(a:cJ)(b:(List Int))(c:Int)(d:cJ->(List Int)->Int->Option R)(e:cJ->Option R):Option R:=
 bif c<((aa b):Int) then zd c (aa b) (bif an b c.toNat 0=12 then zd c (aa b) (zd c (aa b) (bif(aa a+aa ([((4:Int),an b c.toNat (0:Int),an b c.toNat (0:Int),bs [],([]:List dK),())]:List aN))*64<=140737488355328 then d (a++([(4,an b c.toNat 0,an b c.toNat 0,bs [],[],())]:List aN)) b (zW zI (c+1)) else none)) else zd c (aa b) (zd c (aa b) (bif(aa a+aa ([((1:Int),an b c.toNat (0:Int),an b c.toNat (0:Int),bs [],([]:List dK),())]:List aN))*64<=140737488355328 then d (a++([(1,an b c.toNat 0,an b c.toNat 0,bs [],[],())]:List aN)) b (zW zI (c+1)) else none))) else e a
def Io{R:Type}(a:cJ)(b:cJ->Option R):Option R:=
 b a
def zp4:Nat->cJ->(List Int)->Int->Option cJ
 |0,_,_,_=>none
 |k+1,v0,v1,v2=>Im v0 v1 v2 (λa0 a1 a2=>zp4 k a0 a1 a2) (λa0=>some a0)
def yD:Option cJ:=
 Il (λa0 a1 a2=>(zp4 af a0 a1 a2).bind λe=>Io e (λa0=>some a0))
def Ik{R:Type}(a b c:ByteArray)(d:al->Option R):Option R:=
 d ([(0,a,()),(2,b,()),(3,b,()),(12,b,()),(9,b,()),(15,c,())]:List aT)
def yC(a b c:ByteArray):Option al:=
 Ik a b c (λa0=>some a0)
def Ie{R:Type}(a:ax->Option R):Option R:=
 (vn ([(bs [48,49,48,48]),bs [49,49,48,48],bs [48,49,49,48],bs [49,49,49,48],bs [48,50,48,48],bs [49,50,48,48],bs [48,50,49,48],bs [49,50,49,48],bs [48,50,50,48],bs [49,50,50,48],bs [48,50,51,48],bs [49,50,51,48],bs [48,52,48,48],bs [49,52,48,48],bs [48,52,49,48],bs [49,52,49,48],bs [48,52,50,48],bs [49,52,50,48],bs [48,52,51,48],bs [49,52,51,48],bs [48,56,48,48],bs [49,56,48,52],bs [48,56,49,48],(bs [49,56,49,52])]:List ByteArray)).bind λr1=>(vn ([(bs [48,53,49]),bs [53,49,48,49,48,49,53,49,49,51,52,52],bs [48,50,49],bs [50,49,48,49,48,49,50,49,49,51,52,52],bs [48,49,50],(bs [49,48,48,49,52,48,49,48,48,49,49,48])]:List ByteArray)).bind λr2=>(vn ([(bs [48,48]),bs [48,48,48],bs [48,53],bs [49,48,48],bs [49,52],bs [49,49,49],bs [53,49],bs [49,49,54],bs [53,52],bs [49,48,49],bs [57,49],bs [57,48,55],bs [57,54],(bs [57,48,57])]:List ByteArray)).bind λr3=>yD.bind λr4=>bif(aa r4+aa ([((2:Int),(13:Int),(0:Int),bs [],([]:List dK),()),((2:Int),(18:Int),(0:Int),bs [],([]:List dK),()),((2:Int),(90:Int),(0:Int),bs [],([]:List dK),()),((5:Int),(22:Int),(22:Int),bs [],r2,()),((5:Int),(39:Int),(39:Int),bs [],r3,()),((1:Int),(43:Int),(43:Int),bs [],([]:List dK),()),((1:Int),(48:Int),(48:Int),bs [],([]:List dK),()),((3:Int),(0:Int),(26:Int),bs [53,57,57,57],([]:List dK),())]:List aN))*64<=140737488355328 then yD.bind λr5=>(u7 r2).bind λr6=>(u7 r3).bind λr7=>bif(aa r5+aa ([((2:Int),(26:Int),(0:Int),bs [],([]:List dK),()),((2:Int),(43:Int),(0:Int),bs [],([]:List dK),()),((5:Int),(22:Int),(22:Int),bs [],r6,()),((5:Int),(39:Int),(39:Int),bs [],r7,()),((1:Int),(48:Int),(48:Int),bs [],([]:List dK),())]:List aN))*64<=140737488355328 then(Q97 (0:Int)).bind λr8=>(yC (bs [57,54]) (bs [51,48]) (bs [49,50])).bind λr9=>zd 0 2 ((Q97 (1:Int)).bind λj4=>(u7 r1).bind λjt=>bif(aa ([]:List Int)+aa ([(2:Int),(3:Int),(4:Int),(7:Int),(11:Int),(12:Int),(32:Int),(37:Int),(41:Int),(42:Int),(70:Int)]:List Int))*8<=140737488355328 then(yC (bs [57,48,57]) (bs [57,48,52]) (bs [57,48,50])).bind λlD=>zd 1 2 (a (za1 (za1 (so 2 ((0,0,[],()),([],[],()),[],[],())) ((0:Int)).toNat (r8,(r1,r4++([(2,13,0,bs [],[],()),(2,18,0,bs [],[],()),(2,90,0,bs [],[],()),(5,22,22,bs [],r2,()),(5,39,39,bs [],r3,()),(1,43,43,bs [],[],()),(1,48,48,bs [],[],()),(3,0,26,bs [53,57,57,57],[],())]:List aN),()),([2,3,4,7,11,12,32,37,41,42,70]:List Int),r9,())) ((1:Int)).toNat (j4,(jt,r5++([(2,26,0,bs [],[],()),(2,43,0,bs [],[],()),(5,22,22,bs [],r6,()),(5,39,39,bs [],r7,()),(1,48,48,bs [],[],())]:List aN),()),[]++([2,3,4,7,11,12,32,37,41,42,70]:List Int),lD,()),4096,())) else none) else none else none
def FQ:Option ax:=
 Ie (λa0=>some a0)
def zoz{R:Type}(a:ax)(b:Bool->Option R):Option R:=
 zd 0 2 ((nv (an a.1 ((0:Int)).toNat ((0,0,[],()),([],[],()),[],[],()))).bind λr1=>bif r1 then b true else zd 1 2 ((nv (an a.1 ((1:Int)).toNat ((0,0,[],()),([],[],()),[],[],()))).bind λr2=>bif r2 then b true else zd 0 2 ((mK (an a.1 ((0:Int)).toNat ((0,0,[],()),([],[],()),[],[],())).2.1).bind λr3=>bif r3 then b true else zd 1 2 ((mK (an a.1 ((1:Int)).toNat ((0,0,[],()),([],[],()),[],[],())).2.1).bind λr4=>b r4))))
def kd(a:ax):Option Bool:=
 zoz a (λa0=>some a0)
def zoy{R:Type}(a:ax)(b:Int->ax->ax->Option R):Option R:=
 b 0 a (so 2 ((0,0,[],()),([],[],()),[],[],()),0,())
def N9{R:Type}(a:Int)(b c:ax)(d:Int->ax->ax->Option R)(e:ax->ax->Option R):Option R:=
 bif a<2 then zd a 2 ((vd (an b.1 a.toNat ((0,0,[],()),([],[],()),[],[],())).2.1).bind λr1=>zd a 2 ((vj (an b.1 a.toNat ((0,0,[],()),([],[],()),[],[],()))).bind λr2=>zd a 2 (zd a 2 (d (zW zI (a+1)) (za1 (za1 b.1 a.toNat r2) a.toNat ((an (za1 b.1 a.toNat r2) a.toNat ((0,0,[],()),([],[],()),[],[],())).1,r1,(an (za1 b.1 a.toNat r2) a.toNat ((0,0,[],()),([],[],()),[],[],())).2.2.1,(an (za1 b.1 a.toNat r2) a.toNat ((0,0,[],()),([],[],()),[],[],())).2.2.2.1,()),b.2.1,()) c)))) else e b c
def Ij{R:Type}(a b:ax)(c:ax->Option R):Option R:=
 c a
def Mq:Nat->Int->ax->ax->Option (ax×ax)
 |0,_,_,_=>none
 |k+1,v0,v1,v2=>N9 v0 v1 v2 (λa0 a1 a2=>Mq k a0 a1 a2) (λa0 a1=>some (a0,a1))
def vl(a:ax):Option ax:=
 zoy a (λa0 a1 a2=>(Mq af a0 a1 a2).bind λe=>Ij e.1 e.2 (λa0=>some a0))
def zow{R:Type}(a:ax)(b:Int->Int->Int->Option R)(c:Int->ax->Option R):Option R:=
 bif a.2.1<1 then b 5 2 0 else bif 65535<a.2.1 then b 5 2 0 else c 0 a
def N8{R:Type}(a:Int)(b:ax)(c:Int->Int->Int->Option R)(d:Int->ax->Option R)(e:Option R):Option R:=
 bif a<2 then zd a 2 ((vh (an b.1 a.toNat ((0,0,[],()),([],[],()),[],[],()))).bind λr1=>bif !decide (r1.1=0) then c r1.1 a 1 else zd a 2 (zd a 2 (zd (zW zI (1-a)) 2 ((sX (an b.1 a.toNat ((0,0,[],()),([],[],()),[],[],())).2.1 (an b.1 a.toNat ((0,0,[],()),([],[],()),[],[],())).1 (an b.1 (zW zI (1-a)).toNat ((0,0,[],()),([],[],()),[],[],())).1).bind λr2=>bif !decide (r2.1=0) then c r2.1 a 2 else d (zW zI (a+1)) b)))) else e
def Ih{R:Type}(a b c:Int)(d:Int->Int->Int->Option R):Option R:=
 d a b c
def Ii{R:Type}(a:Int->Int->Int->Option R):Option R:=
 a 0 0 0
def Mp:Nat->Int->ax->Option (Sum jy Unit)
 |0,_,_=>none
 |k+1,v0,v1=>N8 v0 v1 (λa0 a1 a2=>some (.inl (a0,a1,a2))) (λa0 a1=>Mp k a0 a1) (some (.inr ()))
def vk(a:ax):Option jy:=
 zow a (λa0 a1 a2=>some (a0,a1,a2)) (λa0 a1=>(Mp af a0 a1).bind λe=>GB (λ(we:jy)=>Ih we.1 we.2.1 we.2.2 (λa0 a1 a2=>some (a0,a1,a2))) (λ(we:Unit)=>Ii (λa0 a1 a2=>some (a0,a1,a2))) e)
def zp1{R:Type}(a:ax)(b:Bool->Option R):Option R:=
 (vk a).bind λr1=>b (decide (r1.1=0))
def mL(a:ax):Option Bool:=
 zp1 a (λa0=>some a0)
def zp2{R:Type}(a:ax)(b:Int)(c:ag)(d:aH)(e:Int->ByteArray->Option R):Option R:=
 zd b 2 ((vg (an a.1 b.toNat ((0,0,[],()),([],[],()),[],[],())) c d).bind λr1=>bif !r1.2 then e 3 (bs []) else(oZ (an a.1 b.toNat ((0,0,[],()),([],[],()),[],[],())).1 r1.1).bind λr2=>bif a.2.1<(r2.size:Int) then e 3 (bs []) else e 2 r2)
def lL(a:ax)(b:Int)(c:ag)(d:aH):Option Nl:=
 zp2 a b c d (λa0 a1=>some (a0,a1))
def zp0{R:Type}(a:ax)(b:Int)(c:ByteArray)(d:Int->ByteArray->Option R):Option R:=
 zd b 2 (zd (zW zI (1-b)) 2 ((sU (an a.1 b.toNat ((0,0,[],()),([],[],()),[],[],())).1 c).bind λr1=>bif !decide (r1.2.1=0) then(lL a b r1.1 r1.2).bind λr2=>d r2.1 r2.2 else(sY (an a.1 b.toNat ((0,0,[],()),([],[],()),[],[],())).2.1 (an a.1 b.toNat ((0,0,[],()),([],[],()),[],[],())).1 (an a.1 (zW zI (1-b)).toNat ((0,0,[],()),([],[],()),[],[],())).1 r1.1).bind λr3=>bif !decide (r3.2.1=0) then(lL a b r1.1 r3.2).bind λr4=>d r4.1 r4.2 else(oZ (an a.1 (zW zI (1-b)).toNat ((0,0,[],()),([],[],()),[],[],())).1 r3.1).bind λr5=>bif a.2.1<(r5.size:Int) then(lL a b r1.1 (5,129,())).bind λr6=>d r6.1 r6.2 else d 1 r5))
def vm(a:ax)(b:Int)(c:ByteArray):Option Nl:=
 zp0 a b c (λa0 a1=>some (a0,a1))
def zp9{R:Type}(a:Int)(b:ByteArray)(c:Int->ByteArray->(List ByteArray)->(List Int)->Int->Option R):Option R:=
 c a b [] [] 0
def zpa{R:Type}(a:Int)(b:ByteArray)(c:(List ByteArray))(d:(List Int))(e:Int)(f:ByteArray->(List ByteArray)->Int->(List Int)->Int->(List ByteArray)->(List Int)->Int->Option R)(g:Int->ByteArray->(List ByteArray)->(List Int)->Int->Option R)(h:ByteArray->(List ByteArray)->(List Int)->Int->Option R):Option R:=
 bif 2<=zW zI ((b.size:Int)-e) then zd e b.size (zd (zW zI (e+1)) b.size (bif zW zI (zW zI (zW zI (ze b e.toNat)*256)+zW zI (ze b (zW zI (e+(1:Int))).toNat))=0 then f b c 0 d (zW zI (e+2)) c d e else bif a<zW zI (zW zI (zW zI (ze b e.toNat)*256)+zW zI (ze b (zW zI (e+(1:Int))).toNat)) then f b c 0 d (zW zI (e+2)) c d e else bif zW zI (zW zI ((b.size:Int)-e)-2)<zW zI (zW zI (zW zI (ze b e.toNat)*256)+zW zI (ze b (zW zI (e+(1:Int))).toNat)) then f b c (zW zI ((b.size:Int)-e)) d (-1:Int) c d e else bif 0<=zW zI (zW zI (e+2)+zW zI (zW zI (zW zI (ze b e.toNat)*256)+zW zI (ze b (zW zI (e+(1:Int))).toNat))) then bif zW zI (zW zI (e+2)+zW zI (zW zI (zW zI (ze b e.toNat)*256)+zW zI (ze b (zW zI (e+(1:Int))).toNat)))<=(b.size:Int) then bif 0<=zW zI (e+2) then bif zW zI (e+2)<=(((zW zI (zW zI (e+2)+zW zI (zW zI (zW zI (ze b e.toNat)*256)+zW zI (ze b (zW zI (e+(1:Int))).toNat)))).toNat:Nat):Int) then bif(aa c+aa ([(b.extract (zW zI (e+(2:Int))).toNat (zW zI (zW zI (e+(2:Int))+zW zI (zW zI (zW zI (ze b e.toNat)*(256:Int))+zW zI (ze b (zW zI (e+(1:Int))).toNat)))).toNat)]:List ByteArray))*16<=140737488355328 then bif(aa d+aa ([(zW zI (zW zI (e+(2:Int))+zW zI (zW zI (zW zI (ze b e.toNat)*(256:Int))+zW zI (ze b (zW zI (e+(1:Int))).toNat))))]:List Int))*8<=140737488355328 then g a b (c++([(b.extract (zW zI (e+(2:Int))).toNat (zW zI (zW zI (e+2)+zW zI (zW zI (zW zI (ze b e.toNat)*256)+zW zI (ze b (zW zI (e+(1:Int))).toNat)))).toNat)]:List ByteArray)) (d++([(zW zI (zW zI (e+2)+zW zI (zW zI (zW zI (ze b e.toNat)*256)+zW zI (ze b (zW zI (e+(1:Int))).toNat))))]:List Int)) (zW zI (zW zI (e+2)+zW zI (zW zI (zW zI (ze b e.toNat)*256)+zW zI (ze b (zW zI (e+(1:Int))).toNat)))) else none else none else none else none else none else none)) else h b c d e
def Iu{R:Type}(a:ByteArray)(b:(List ByteArray))(c:Int)(d:(List Int))(e:Int)(f:(List ByteArray))(g:(List Int))(h:Int)(i:(List ByteArray)->Int->(List Int)->Int->Option R):Option R:=
 i b c d e
def Iv{R:Type}(a:ByteArray)(b:(List ByteArray))(c:(List Int))(d:Int)(e:(List ByteArray)->Int->(List Int)->Int->Option R):Option R:=
 e b (zW zI ((a.size:Int)-d)) c (-1:Int)
def Oa:Nat->Int->ByteArray->(List ByteArray)->(List Int)->Int->Option (Sum (ByteArray×(List ByteArray)×Int×(List Int)×Int×(List ByteArray)×(List Int)×Int) (ByteArray×(List ByteArray)×(List Int)×Int))
 |0,_,_,_,_,_=>none
 |k+1,v0,v1,v2,v3,v4=>zpa v0 v1 v2 v3 v4 (λa0 a1 a2 a3 a4 a5 a6 a7=>some (.inl (a0,a1,a2,a3,a4,a5,a6,a7))) (λa0 a1 a2 a3 a4=>Oa k a0 a1 a2 a3 a4) (λa0 a1 a2 a3=>some (.inr (a0,a1,a2,a3)))
def nw(a:Int)(b:ByteArray):Option ((List ByteArray)×Int×(List Int)×Int):=
 zp9 a b (λa0 a1 a2 a3 a4=>(Oa af a0 a1 a2 a3 a4).bind λe=>GB (λ(we:(ByteArray×(List ByteArray)×Int×(List Int)×Int×(List ByteArray)×(List Int)×Int))=>Iu we.1 we.2.1 we.2.2.1 we.2.2.2.1 we.2.2.2.2.1 we.2.2.2.2.2.1 we.2.2.2.2.2.2.1 we.2.2.2.2.2.2.2 (λa0 a1 a2 a3=>some (a0,a1,a2,a3))) (λ(we:(ByteArray×(List ByteArray)×(List Int)×Int))=>Iv we.1 we.2.1 we.2.2.1 we.2.2.2 (λa0 a1 a2 a3=>some (a0,a1,a2,a3))) e)
def zp7{R:Type}(a:ByteArray)(b:ByteArray->Option R):Option R:=
 bif(a.size:Int)=0 then b (bs []) else bif 65535<(a.size:Int) then b (bs []) else bif(strOf ([(zW zU (zW zI (zaf (a.size:Int) 256))),(zW zU (zaN (a.size:Int) 256))]:List Int)).size+a.size<=9223372036854775807 then b (strOf ([(zW zU (zW zI (zaf (a.size:Int) 256))),(zW zU (zaN (a.size:Int) 256))]:List Int)++a) else none
def pf(a:ByteArray):Option ByteArray:=
 zp7 a (λa0=>some a0)
def zpf{R:Type}(a b:bP)(c:Bool->Option R)(d:bP->bP->Int->Option R):Option R:=
 bif !decide (((aa a):Int)=((aa b):Int)) then c false else d a b 0
def z162{R:Type}(a b:bP)(c:Int)(d:Bool->Option R)(e:bP->bP->Int->Option R)(f:Option R):Option R:=
 bif c<((aa a):Int) then zd c (aa a) (zd c (aa b) (bif !(decide ((an a c.toNat (0,0,bs [],0,())).1=(an b c.toNat (0,0,bs [],0,())).1)&&(decide ((an a c.toNat (0,0,bs [],0,())).2.1=(an b c.toNat (0,0,bs [],0,())).2.1)&&(decide ((an a c.toNat (0,0,bs [],0,())).2.2.1=(an b c.toNat (0,0,bs [],0,())).2.2.1)&&(decide ((an a c.toNat (0,0,bs [],0,())).2.2.2.1=(an b c.toNat (0,0,bs [],0,())).2.2.2.1)&&true)))) then d false else e a b (zW zI (c+1)))) else f
def zpg{R:Type}(a:Bool)(b:Bool->Option R):Option R:=
 b a
def zph{R:Type}(a:Bool->Option R):Option R:=
 a true
def ZZ:Nat->bP->bP->Int->Option (Sum Bool Unit)
 |0,_,_,_=>none
 |k+1,v0,v1,v2=>z162 v0 v1 v2 (λa0=>some (.inl a0)) (λa0 a1 a2=>ZZ k a0 a1 a2) (some (.inr ()))
def nx(a b:bP):Option Bool:=
 zpf a b (λa0=>some a0) (λa0 a1 a2=>(ZZ af a0 a1 a2).bind λe=>GB (λ(we:Bool)=>zpg we (λa0=>some a0)) (λ(we:Unit)=>zph (λa0=>some a0)) e)
def ZX{R:Type}(a:al)(b:Int)(c:al->Int->Int->Int->Option R):Option R:=
 c a b ((aa a):Int) 0
def Mr{R:Type}(a:al)(b c d:Int)(e:Int->Bool->Int->Option R)(f:al->Int->Int->Int->Option R)(g:Int->Int->Option R):Option R:=
 bif d<((aa a):Int) then bif b<c then e b true c else zd d (aa a) (bif b<(((an a d.toNat (0,bs [],())).2.1).size:Int) then e b true c else zd d (aa a) (f a b (zW zI (c+(((an a d.toNat (0,bs [],())).2.1).size:Int))) (zW zI (d+1)))) else g b c
def Ix{R:Type}(a:Int)(b:Bool)(c:Int)(d:Bool->Option R):Option R:=
 d b
def Iy{R:Type}(a b:Int)(c:Bool->Option R):Option R:=
 c (decide (a<b))
def ZW:Nat->al->Int->Int->Int->Option (Sum QH (Int×Int))
 |0,_,_,_,_=>none
 |k+1,v0,v1,v2,v3=>Mr v0 v1 v2 v3 (λa0 a1 a2=>some (.inl (a0,a1,a2))) (λa0 a1 a2 a3=>ZW k a0 a1 a2 a3) (λa0 a1=>some (.inr (a0,a1)))
def jx(a:al)(b:Int):Option Bool:=
 ZX a b (λa0 a1 a2 a3=>(ZW af a0 a1 a2 a3).bind λe=>GB (λ(we:QH)=>Ix we.1 we.2.1 we.2.2 (λa0=>some a0)) (λ(we:(Int×Int))=>Iy we.1 we.2 (λa0=>some a0)) e)
def zpk{R:Type}(a:dt)(b:ax)(c:Int)(d:ByteArray)(e:im->dt->Option R):Option R:=
 (vm b c d).bind λr1=>bif r1.1=3 then e (c,3,bs [],zW zI (a.2.2.2.1+1),()) (a.1,a.2.1,a.2.2.1,zW zI (a.2.2.2.1+1),()) else bif r1.1=1 then(pf r1.2).bind λr2=>e (zW zI (1-c),r1.1,r2,a.2.2.2.1,()) a else(pf r1.2).bind λr3=>e (c,r1.1,r3,a.2.2.2.1,()) a
def s4(a:dt)(b:ax)(c:Int)(d:ByteArray):Option (im×dt):=
 zpk a b c d (λa0 a1=>some (a0,a1))
def zpj{R:Type}(a:dt)(b:ax)(c:aT)(d:bP->dt->Option R)(e:bP->(List ByteArray)->Int->Int->dt->ax->aT->Option R):Option R:=
 bif c.1<0 then d [] a else bif 1<c.1 then d [] a else zd c.1 2 (bif(an a.1 c.1.toNat (bs [])).size+c.2.1.size<=9223372036854775807 then zd c.1 2 (zd c.1 2 ((nw b.2.1 (an (za1 a.1 c.1.toNat (an a.1 c.1.toNat (bs [])++c.2.1)) c.1.toNat (bs []))).bind λr1=>zd c.1 2 (e [] r1.1 r1.2.2.2 (an a.2.1 c.1.toNat 0) (za1 a.1 c.1.toNat (an a.1 c.1.toNat (bs [])++c.2.1),a.2.1,a.2.2.1,a.2.2.2.1,()) b c))) else none)
def IB{R:Type}(a:bP)(b:(List ByteArray))(c d:Int)(e:dt)(f:ax)(g:aT)(h:bP->(List ByteArray)->Int->Int->dt->ax->aT->Option R)(i:bP->(List ByteArray)->Int->dt->aT->Option R):Option R:=
 bif d<((aa b):Int) then zd d (aa b) ((s4 e f g.1 (an b d.toNat (bs []))).bind λr2=>bif(aa a+aa ([r2.1]:List im))*40<=140737488355328 then h (a++([r2.1]:List im)) b c (zW zI (d+1)) r2.2 f g else none) else i a b c e g
def Z0{R:Type}(a:bP)(b:(List ByteArray))(c:Int)(d:dt)(e:aT)(f:bP->dt->Option R):Option R:=
 zd e.1 2 (bif 0<=c then zd e.1 2 (bif !an d.2.2.1 e.1.toNat false then zd e.1 2 (bif(aa a+aa ([(e.1,(4:Int),bs [],d.2.2.2.1,())]:List im))*40<=140737488355328 then f (a++([(e.1,4,bs [],d.2.2.2.1,())]:List im)) (d.1,za1 d.2.1 e.1.toNat ((aa b):Int),za1 d.2.2.1 e.1.toNat true,d.2.2.2.1,()) else none) else f a (d.1,za1 d.2.1 e.1.toNat ((aa b):Int),d.2.2.1,d.2.2.2.1,())) else f a (d.1,za1 d.2.1 e.1.toNat ((aa b):Int),d.2.2.1,d.2.2.2.1,()))
def Fx:Nat->bP->(List ByteArray)->Int->Int->dt->ax->aT->Option (bP×(List ByteArray)×Int×dt×aT)
 |0,_,_,_,_,_,_,_=>none
 |k+1,v0,v1,v2,v3,v4,v5,v6=>IB v0 v1 v2 v3 v4 v5 v6 (λa0 a1 a2 a3 a4 a5 a6=>Fx k a0 a1 a2 a3 a4 a5 a6) (λa0 a1 a2 a3 a4=>some (a0,a1,a2,a3,a4))
def pg(a:dt)(b:ax)(c:aT):Option (bP×dt):=
 zpj a b c (λa0 a1=>some (a0,a1)) (λa0 a1 a2 a3 a4 a5 a6=>(Fx af a0 a1 a2 a3 a4 a5 a6).bind λe=>Z0 e.1 e.2.1 e.2.2.1 e.2.2.2.1 e.2.2.2.2 (λa0 a1=>some (a0,a1)))
def zpd{R:Type}(a:ax)(b:al)(c:al->bP->Int->ax->dt->Option R):Option R:=
 c b [] 0 a (so 2 (bs []),so 2 0,so 2 false,0,())
def Iz{R:Type}(a:al)(b:bP)(c:Int)(d:ax)(e:dt)(f:al->bP->Int->ax->dt->Option R)(g:bP->Option R):Option R:=
 bif c<((aa a):Int) then zd c (aa a) ((pg e d (an a c.toNat (0,bs [],()))).bind λr1=>bif(aa b+aa r1.1)*40<=140737488355328 then f a (b++r1.1) (zW zI (c+1)) d r1.2 else none) else g b
def z160{R:Type}(a:bP)(b:bP->Option R):Option R:=
 b a
def ZY:Nat->al->bP->Int->ax->dt->Option bP
 |0,_,_,_,_,_=>none
 |k+1,v0,v1,v2,v3,v4=>Iz v0 v1 v2 v3 v4 (λa0 a1 a2 a3 a4=>ZY k a0 a1 a2 a3 a4) (λa0=>some a0)
def vp(a:ax)(b:al):Option bP:=
 zpd a b (λa0 a1 a2 a3 a4=>(ZY af a0 a1 a2 a3 a4).bind λe=>z160 e (λa0=>some a0))
def KQ{R:Type}(a:Bool->Option R):Option R:=
 FQ.bind λr1=>(C7 r1).bind λr2=>GB (λ(Ha:Int)=>(C7 (so 2 ((0,0,[],()),([],[],()),[],[],()),0,())).bind λr3=>GB (λ(uG:Int)=>bif !decide (Ha=0) then a false else a false) (λ(uG:(Int×(ax×(Option ar×Option ar)×Int)))=>bif !decide (Ha=0) then a false else a false) r3) (λ(Ha:(Int×(ax×(Option ar×Option ar)×Int)))=>(C7 (so 2 ((0,0,[],()),([],[],()),[],[],()),0,())).bind λr4=>GB (λ(wr4:Int)=>bif !decide (Ha.1=0) then a false else(FY Ha.2 ([(0,bs [0],()),(1,bs [0,1,65],()),(0,bs [0],())]:List aT)).bind λr5=>bif wr4=1 then(nx r5.1 ([(1,3,bs [],1,()),(0,4,bs [],1,())]:List im)).bind λr6=>bif r6 then(Nf r5.2).bind λr7=>bif r7.1=1 then(xP r7.2 (0:Int)).bind λr8=>bif r8.1 then(xP r8.2 (1:Int)).bind λr9=>bif !r9.1 then(Q44 r9.2 (1:Int)).bind λj4=>a (decide (j4.1=0)) else a false else a false else a false else a false else a false) (λ(wr4:(Int×(ax×(Option ar×Option ar)×Int)))=>bif !decide (Ha.1=0) then a false else(FY Ha.2 ([(0,bs [0],()),(1,bs [0,1,65],()),(0,bs [0],())]:List aT)).bind λjt=>bif wr4.1=1 then(nx jt.1 ([(1,3,bs [],1,()),(0,4,bs [],1,())]:List im)).bind λlD=>bif lD then(Nf jt.2).bind λju=>bif ju.1=1 then(xP ju.2 (0:Int)).bind λpV=>bif pV.1 then(xP pV.2 (1:Int)).bind λsF=>bif !sF.1 then(Q44 sF.2 (1:Int)).bind λxk=>a (decide (xk.1=0)) else a false else a false else a false else a false else a false) r4) r2
def yL:Option Bool:=
 KQ (λa0=>some a0)
def zzl{R:Type}(a:ax)(b:al)(c:Int)(d:Option R)(e:Bool->(ax×(Option ar×Option ar)×Int)->Option R):Option R:=
 (kd a).bind λr1=>bif r1 then d else(jx b c).bind λr2=>bif r2 then d else(mL a).bind λr3=>bif !r3 then d else(vl a).bind λr4=>(C7 r4).bind λr5=>GB (λ(Sx:Int)=>bif Sx=0 then d else d) (λ(Sx:(Int×(ax×(Option ar×Option ar)×Int)))=>bif Sx.1=0 then e true Sx.2 else e false Sx.2) r5
def F0(a:ax)(b:al)(c:Int):Option (Sum Unit (Bool×(ax×(Option ar×Option ar)×Int))):=
 zzl a b c (some (.inl ())) (λa0 a1=>some (.inr (a0,a1)))
def zzj{R:Type}(a:ax)(b:al)(c:Bool->Option R)(d:al->Bool->al->Int->Int->ax->(ax×(Option ar×Option ar)×Int)->dt->Option R):Option R:=
 (F0 a b (2500:Int)).bind λr1=>GB (λ(wr1:Unit)=>yL.bind λr2=>bif !r2 then yL.bind λr3=>bif r3 then(kd a).bind λr4=>bif r4 then c true else(jx b (2500:Int)).bind λr5=>bif r5 then c true else(mL a).bind λr6=>c (!r6) else c false else yL.bind λr7=>bif r7 then(kd a).bind λr8=>bif r8 then c true else(jx b (2500:Int)).bind λr9=>bif r9 then c true else(mL a).bind λj4=>c (!j4) else c false) (λ(wr1:(Bool×(ax×(Option ar×Option ar)×Int)))=>yL.bind λjt=>bif !jt then yL.bind λlD=>bif lD then(kd a).bind λju=>bif ju then c true else(jx b (2500:Int)).bind λpV=>bif pV then c true else(mL a).bind λsF=>c (!sF) else c false else bif !wr1.1 then yL.bind λxk=>bif xk then(kd a).bind λAX=>bif AX then c true else(jx b (2500:Int)).bind λAY=>bif AY then c true else(mL a).bind λtY=>c (!tY) else c false else d b wr1.1 b ((aa b):Int) 0 a wr1.2 (so 2 (bs []),so 2 0,so 2 false,0,())) r1
def zk7{R:Type}(a:al)(b:Bool)(c:al)(d e:Int)(f:ax)(g:(ax×(Option ar×Option ar)×Int))(h:dt)(i:al->Bool->ax->Option R)(j:al->Bool->al->Int->Int->ax->(ax×(Option ar×Option ar)×Int)->dt->Option R)(l:al->ax->Option R):Option R:=
 bif e<d then zd e (aa c) ((FX g (an c e.toNat (0,bs [],()))).bind λx9=>(pg h f (an c e.toNat (0,bs [],()))).bind λpW=>(nx x9.1 pW.1).bind λG4=>bif !G4 then i a false f else(Nf x9.2).bind λE7=>bif !decide (E7.1=pW.2.2.2.2.1) then i a false f else(xP E7.2 (0:Int)).bind λSg=>zd 0 2 (bif !(Sg.1==(an pW.2.2.2.1 ((0:Int)).toNat false)) then i a false f else(xP Sg.2 (1:Int)).bind λsG=>zd 1 2 (bif !(sG.1==(an pW.2.2.2.1 ((1:Int)).toNat false)) then i a false f else j a b c d (zW zI (e+1)) f sG.2 pW.2))) else l a f
def KP{R:Type}(a:al)(b:Bool)(c:ax)(d:Bool->Option R):Option R:=
 d b
def zzk{R:Type}(a:al)(b:ax)(c:Bool->Option R):Option R:=
 (F0 b [] (0:Int)).bind λr26=>GB (λ(Sw:Unit)=>c false) (λ(Sw:(Bool×(ax×(Option ar×Option ar)×Int)))=>(FY Sw.2 a).bind λNG=>(vp b a).bind λr28=>(nx NG.1 r28).bind λSh=>c Sh) r26
def MV:Nat->al->Bool->al->Int->Int->ax->(ax×(Option ar×Option ar)×Int)->dt->Option (Sum (al×Bool×ax) (al×ax))
 |0,_,_,_,_,_,_,_,_=>none
 |k+1,v0,v1,v2,v3,v4,v5,v6,v7=>zk7 v0 v1 v2 v3 v4 v5 v6 v7 (λa0 a1 a2=>some (.inl (a0,a1,a2))) (λa0 a1 a2 a3 a4 a5 a6 a7=>MV k a0 a1 a2 a3 a4 a5 a6 a7) (λa0 a1=>some (.inr (a0,a1)))
def Pw(a:ax)(b:al):Option Bool:=
 zzj a b (λa0=>some a0) (λa0 a1 a2 a3 a4 a5 a6 a7=>(MV af a0 a1 a2 a3 a4 a5 a6 a7).bind λe=>GB (λ(we:(al×Bool×ax))=>KP we.1 we.2.1 we.2.2 (λa0=>some a0)) (λ(we:(al×ax))=>zzk we.1 we.2 (λa0=>some a0)) e)
end bz

namespace bz
open Go.IntKind renaming wrap->zW,i64->zI,u8->zU
theorem zT{p:Prop}[Decidable p](h:p):decide p=true:=_root_.decide_eq_true h
theorem zF{p:Prop}[Decidable p](h:¬p):decide p=false:=_root_.decide_eq_false h
theorem zC{α:Type}{a b:α}:(bif true then a else b)=a:=rfl
theorem zD{α:Type}{a b:α}:(bif false then a else b)=b:=rfl
open Go Go.Ref
theorem zo:af=18446744073709551616:=by unfold af;rfl
theorem zj:maxLen=9223372036854775807:=rfl
theorem zi{x:Int}(h1: -9223372036854775808<=x)(h2:x<=9223372036854775807):zW zI x=x:=LV h1 h2
theorem yq{n:Nat}(h:n<=9223372036854775807):zW zI (n:Int)=n:=LV (by omega) (by omega)
theorem zq{j:Nat}(h:j<9223372036854775807):zW zI ((j:Int)+1)=((j+1:Nat):Int):=by rw[LV (by omega) (by omega)];rfl
theorem XU(x:Int):IntKind.u64.wrap x=x % 18446744073709551616:=by simp [zcP,zb3,zb4]
theorem zmq(x:Int):zW zU x=x % 256:=by simp [zcP,zb3,zb4]
theorem arp{x:Int}(h1:0<=x)(h2:x<18446744073709551616):IntKind.u64.wrap x=x:=by rw[XU];omega
theorem xv{x:Int}(h1:0<=x)(h2:x<256):zW zU x=x:=by rw[zmq];omega
theorem zh{R:Type}{j n:Nat}{x:Option R}(h:j<n):zd (j:Int) n x=x:=ajp h
theorem zl{R:Type}{i:Int}{n:Nat}{x:Option R}(h0:0<=i)(h:i<n):zd i n x=x:=by unfold zd;rw[zT h0,zT h];rfl
theorem apk{R:Type}{p:Prop}[Decidable p](x y:R):(bif decide p then x else y)=if p then x else y:=by by_cases h:p<;>simp [h]
def bl(s:ByteArray):List Int:=s.data.toList.map λb=>(b.toNat:Int)
theorem xK{a b:ByteArray}(h:bl a=bl b):a=b:=by apply ByteArray.ext;apply Array.ext';unfold bl at h;have:Function.Injective (λb:UInt8=>(b.toNat:Int)):=λx y EV=>UInt8.toNat_inj.1 (Int.ofNat.inj EV);exact(List.map_inj_right (λx y h=>this h)).1 h
theorem QK{a b:ByteArray}:a=b↔bl a=bl b:=⟨λh=>by rw[h],xK⟩
theorem zf(s:ByteArray):(bl s).length=s.size:=by unfold bl;rw[List.length_map];rfl
theorem oH(a b:ByteArray):bl (a++b)=bl a++bl b:=by simp [bl,zcC]
theorem xC(s:ByteArray)(i j:Nat):bl (s.extract i j)=((bl s).take j).drop i:=by unfold bl;rw[ByteArray.data_extract,Array.toList_extract,List.extract_eq_drop_take',List.map_drop,List.map_take]
theorem lW(s:ByteArray)(i:Nat):ze s i=(bl s).getD i 0:=by
 unfold ze bl;split
 ·rename_i h;have h':i<s.data.toList.length:=h;rw[be,List.getElem?_map,ks h'];rfl
 ·rename_i h;have h':s.data.toList.length<=i:=Nat.le_of_not_lt h;rw[be,List.getElem?_eq_none (by simpa using h')];rfl
def zn(n:Int):Prop:=0<=n/\n<256
theorem ii{s:ByteArray}{x:Int}(h:x∈bl s):zn x:=by unfold bl at h;obtain⟨b,_,rfl⟩:=zau.1 h;have:=b.toNat_lt;unfold zn;omega
theorem ue{xs:List Int}(h:∀x∈xs,zn x):bl (strOf xs)=xs:=by
 simp only[bl,strOf,List.map_map]
 conv=>rhs;rw[<-List.map_id xs]
 apply zbD;intro x hx;have:=h x hx;unfold zn at this;simp only[Function.comp,id];rw[zfF (by show x.toNat<256;omega)];omega
theorem Cq(s:ByteArray):strOf (bl s)=s:=xK (ue λx hx=>ii hx)
theorem Eo{l:List Nat}(h:∀x∈l,x<256):bl (bs l)=l.map (λn:Nat=>(n:Int)):=by simp only[bl,bs,List.map_map];apply zbD;intro x hx;have:=h x hx;simp only[Function.comp];rw[zfF (by show x<256;omega)]
theorem zw2:bl (bs [])=[]:=rfl
theorem zg1{s:ByteArray}:s=bs []↔bl s=[]:=by rw[QK,zw2]
theorem lV(xs:List Int):(strOf xs).size=xs.length:=by rw[<-zf];unfold bl strOf;simp
section
variable {α σ ρ:Type}
end
end bz
namespace bz
open Go.IntKind renaming wrap->zW,i64->zI,u8->zU
open Go Go.Ref
section
variable {α σ ρ:Type}
def aV(g:Int->α->σ->(σ->Option ρ)->Option ρ)(fin:σ->Option ρ):List α->Int->σ->Option ρ
 | [],_,s=>fin s
 |x::r,i,s=>g i x s λs'=>aV g fin r (i+1) s'
theorem LN(d:α)(xs:List α)(hlen:xs.length<=9223372036854775807)(g:Int->α->σ->(σ->Option ρ)->Option ρ)(fin:σ->Option ρ)(L:Nat->Int->σ->Option ρ)
 (step:∀k (i:Int) s,L (k+1) i s=bif decide (i<(xs.length:Int)) then zd i xs.length (g i (xs.getD i.toNat d) s λs'=>L k (zW zI (i+1)) s') else fin s):
 ∀(m j k:Nat) (s:σ),j+m=xs.length->m<k->L k j s=aV g fin (xs.drop j) j s
 |0,j,k,s,hj,hk=>by
  obtain⟨k,rfl⟩:∃k',k=k'+1:=⟨k-1,by omega⟩
  rw[step,zF (by omega),GA (by omega)];rfl
 |m+1,j,k,s,hj,hk=>by
  obtain⟨k,rfl⟩:∃k',k=k'+1:=⟨k-1,by omega⟩
  have ap:j<xs.length:=by omega
  rw[step,zT (by omega),zC,zh ap,AT ap,aV];have hx:xs.getD ((j:Int)).toNat d=xs[j]:=by rw[ba,be,ks ap];rfl
  rw[hx];congr 1
  funext s'
  rw[zq (by omega),LN d xs hlen g fin L step m (j+1) k s' (by omega) (by omega)];rfl
theorem cn(d:α)(xs:List α)(hlen:xs.length<=maxLen)(g:Int->α->σ->(σ->Option ρ)->Option ρ)(fin:σ->Option ρ)(L:Nat->Int->σ->Option ρ)
 (step:∀k (i:Int) s,L (k+1) i s=bif decide (i<(xs.length:Int)) then zd i xs.length (g i (xs.getD i.toNat d) s λs'=>L k (zW zI (i+1)) s') else fin s) (s:σ):L af 0 s=aV g fin xs 0 s:=by
 rw[zj] at hlen;have:=LN d xs hlen g fin L step xs.length 0 af s (by omega) (by rw[zo];omega);rw[GS] at this;exact this
theorem YL(d:α)(xs:List α)(hlen:xs.length<=9223372036854775807)(g:Int->α->σ->(σ->Option ρ)->Option ρ)(fin:σ->Option ρ)(L:Nat->Int->σ->Option ρ)
 (step:∀k (i:Int) s,0<=i->i<(xs.length:Int)->L (k+1) i s=g i (xs.getD i.toNat d) s λs'=>L k (zW zI (i+1)) s') (stop:∀k s,L (k+1) (xs.length:Int) s=fin s):
 ∀(m j k:Nat) (s:σ),j+m=xs.length->m<k->L k j s=aV g fin (xs.drop j) j s
 |0,j,k,s,hj,hk=>by
  obtain⟨k,rfl⟩:∃k',k=k'+1:=⟨k-1,by omega⟩
  have:j=xs.length:=by omega
  subst this;rw[stop,List.drop_length];rfl
 |m+1,j,k,s,hj,hk=>by
  obtain⟨k,rfl⟩:∃k',k=k'+1:=⟨k-1,by omega⟩
  have ap:j<xs.length:=by omega
  rw[step k j s (by omega) (by omega),AT ap,aV];have hx:xs.getD ((j:Int)).toNat d=xs[j]:=by rw[ba,be,ks ap];rfl
  rw[hx];congr 1
  funext s'
  rw[zq (by omega),YL d xs hlen g fin L step stop m (j+1) k s' (by omega) (by omega)];rfl
theorem gf(d:α)(xs:List α)(hlen:xs.length<=maxLen)(g:Int->α->σ->(σ->Option ρ)->Option ρ)(fin:σ->Option ρ)(L:Nat->Int->σ->Option ρ)
 (step:∀k (i:Int) s,0<=i->i<(xs.length:Int)->L (k+1) i s=g i (xs.getD i.toNat d) s λs'=>L k (zW zI (i+1)) s') (stop:∀k s,L (k+1) (xs.length:Int) s=fin s) (s:σ):L af 0 s=aV g fin xs 0 s:=by
 rw[zj] at hlen;have:=YL d xs hlen g fin L step stop xs.length 0 af s (by omega) (by rw[zo];omega);rw[GS] at this;exact this
end
end bz

namespace bz
open Go.IntKind renaming wrap->zW,i64->zI,u8->zU
open Go Go.Ref
theorem Fo(n a:Nat)(h:a<2^n):(BitVec.ofInt n (a:Int)).toNat=a:=by
 rw[BitVec.toNat_ofInt];have h2:((a:Int)% ((2^n:Nat):Int))=((a % 2^n:Nat):Int):=by rfl
 rw[h2,ba,Nat.mod_eq_of_lt h]
theorem OA{a:Nat}(h:a<18446744073709551616):IntKind.u64.wrap (a:Int)=a:=arp (by omega) (by omega)
theorem nI{a b:Nat}(ha:a<18446744073709551616)(hb:b<18446744073709551616):aU .and .u64 a b=((a&&&b:Nat):Int):=by simp only[aU,zfW,Fo IntKind.u64.bits a ha,Fo IntKind.u64.bits b hb];exact OA (zdV zeJ ha)
theorem AO{a b:Nat}(ha:a<18446744073709551616)(hb:b<18446744073709551616):aU .or .u64 a b=((a|||b:Nat):Int):=by simp only[aU,BitVec.toNat_or,Fo IntKind.u64.bits a ha,Fo IntKind.u64.bits b hb];exact OA (Nat.or_lt_two_pow (n:=64) ha hb)
theorem al3{a b:Nat}(ha:a<18446744073709551616)(hb:b<18446744073709551616):aU .andNot .u64 a b=((a&&&(18446744073709551615-b):Nat):Int):=by simp only[aU,zfW,BitVec.toNat_not,Fo IntKind.u64.bits a ha,Fo IntKind.u64.bits b hb];have:2^IntKind.u64.bits-1-b=18446744073709551615-b:=rfl;rw[this];exact OA (zdV zeJ ha)
theorem aph{a b:Nat}(ha:a<9223372036854775808)(hb:b<9223372036854775808):aU .and .i64 a b=((a&&&b:Nat):Int):=by simp only[aU,zfW,Fo IntKind.i64.bits a (Nat.lt_trans ha (by decide)),Fo IntKind.i64.bits b (Nat.lt_trans hb (by decide))];have:=zdV (zeJ (n:=a) (m:=b)) ha;exact yq (by omega)
theorem Zo(a:Nat)(k:Nat)(hk:k<=64):zal (a:Int) (2^min ((k:Int)).toNat 64)=((a/2^k:Nat):Int):=by rw[Int.fdiv_eq_ediv_of_nonneg _ (Int.pow_nonneg (by decide)),ba,zaQ hk];rfl
section
variable {c0 c1 c2 c3 c4 c5 c6 c7:Nat}
end
def gC(x:Nat):Nat:=if x=0 then 0 else x.log2+1
theorem z8k(x:Nat):x<2^gC x/\(x≠0->2^(gC x-1)<=x/\1<=gC x):=by
 unfold gC;split
 ·simp_all
 ·rename_i h;exact⟨Nat.lt_log2_self,λ_=>⟨by simpa using Nat.log2_self_le h,by omega⟩⟩
theorem acW{x L:Nat}(h1:x<2^L)(h2:L≠0->2^(L-1)<=x):gC x=L:=by
 obtain⟨g1,g2⟩:=z8k x;by_cases hx:x=0
 ·subst hx;by_cases hL:L=0
  ·rw[hL];rfl
  ·have:=h2 hL;have:=zf9 (L-1);omega
 ·obtain⟨g3,g4⟩:=g2 hx;rcases Nat.lt_trichotomy (gC x) L with h|h|h
  ·have:=h2 (by omega);have:2^gC x<=2^(L-1):=zaI (by decide) (by omega);omega
  ·exact h
  ·have:2^L<=2^(gC x-1):=zaI (by decide) (by omega);omega
theorem zba{x k:Nat}(h:2^k<=x):gC x=gC (x/2^k)+k:=by
 have hp:=zf9 k;have hq:x/2^k≠0:=by have:=Nat.div_pos h hp;omega
 obtain⟨g1,g2⟩:=z8k (x/2^k);obtain⟨g3,g4⟩:=g2 hq;apply acW
 ·rw[Nat.pow_add];exact(Nat.div_lt_iff_lt_mul hp).1 g1
 ·intro _;have:gC (x/2^k)+k-1=(gC (x/2^k)-1)+k:=by omega
  rw[this,Nat.pow_add];exact(Nat.le_div_iff_mul_le hp).1 g3
def mI:List Nat:=[0,1,2,2,3,3,3,3,4,4,4,4,4,4,4,4,5,5,5,5,5,5,5,5,5,5,5,5,5,5,5,5]++so 32 6++so 64 7++so 128 8
theorem am0:∀c:Fin 256,mI.getD c.1 0=gC c.1:=by decide+kernel
def E0(x:Int):Option Int:=
 let t:Int->Int->Option Int:=λn x=>zd (zW zU x) (bs mI).size (some (zW zI (n+zW zI (ze (bs mI) (zW zU x).toNat))));let c:Int->Int->Option Int:=λn x=>bif decide ((256:Int)<=x) then t (zW zI (n+8)) (zal x (2^min ((8:Int)).toNat 64)) else t n x;let b:Int->Int->Option Int:=λn x=>bif decide ((65536:Int)<=x) then c (zW zI (n+16)) (zal x (2^min ((16:Int)).toNat 64)) else c n x
 bif decide ((4294967296:Int)<=x) then b 32 (zal x (2^min ((32:Int)).toNat 64)) else b 0 x
theorem adD(x:Int):vr x=E0 x:=by kernel_rfl
theorem aiu(c:Nat)(h:c<256):ze (bs mI) c=((gC c:Nat):Int):=by rw[lW,Eo (by decide+kernel),<-am0 ⟨c,h⟩,be,List.getElem?_map,be];cases mI[c]? <;>rfl
theorem TJ{x k:Nat}(h:x<2^k):gC x<=k:=by
 by_cases hx:x=0
 ·subst hx;simp [gC]
 ·obtain⟨g3,g4⟩:=(z8k x).2 hx;rcases Nat.lt_or_ge k (gC x) with h1|h1
  ·have:2^k<=2^(gC x-1):=zaI (by decide) (by omega);omega
  ·exact h1
theorem ajD(x:Nat)(hx:x<18446744073709551616):vr x=some ((gC x:Nat):Int):=by
 rw[adD];unfold E0;simp only;have ht:∀(n:Nat) (c:Nat),n<=100->c<256->zd (zW zU (c:Int)) (bs mI).size (some (zW zI ((n:Int)+zW zI (ze (bs mI) (zW zU (c:Int)).toNat))))=some (((n+gC c:Nat):Int)):=by
  intro n c hn hc;have hl:(bs mI).size=256:=by rw[<-zf,Eo (by decide+kernel)];rfl
  have hb:=TJ (k:=8) hc;rw[xv (by omega) (by omega),hl,zh hc,ba,aiu c hc,yq (by omega),zi (by omega) (by omega)];rfl
 have f8:∀a:Nat,zal (a:Int) (2^min ((8:Int)).toNat 64)=((a/2^8:Nat):Int):=λa=>Zo a 8 (by omega);have f16:∀a:Nat,zal (a:Int) (2^min ((16:Int)).toNat 64)=((a/2^16:Nat):Int):=λa=>Zo a 16 (by omega);have f32:∀a:Nat,zal (a:Int) (2^min ((32:Int)).toNat 64)=((a/2^32:Nat):Int):=λa=>Zo a 32 (by omega);have hc:∀(n:Nat) (y:Nat),n<=48->y<65536->(bif decide ((256:Int)<=(y:Int)) then zd (zW zU (zal (y:Int) (2^min ((8:Int)).toNat 64))) (bs mI).size (some (zW zI (zW zI ((n:Int)+8)+zW zI (ze (bs mI) (zW zU (zal (y:Int) (2^min ((8:Int)).toNat 64))).toNat)))) else zd (zW zU (y:Int)) (bs mI).size (some (zW zI ((n:Int)+zW zI (ze (bs mI) (zW zU (y:Int)).toNat)))))=some (((n+gC y:Nat):Int)):=by
  intro n y hn hy;by_cases h:256<=y
  ·rw[zT (by omega),zC,f8,zi (x:=(n:Int)+8) (by omega) (by omega)];have:=ht (n+8) (y/2^8) (by omega) (by omega);rw[show((n:Int)+8)=((n+8:Nat):Int) from rfl,this,zba (k:=8) h];congr 2;omega
  ·rw[zF (by omega),zD];exact ht n y (by omega) (by omega)
 have hb:∀(n:Nat) (y:Nat),n<=32->y<4294967296->(bif decide ((65536:Int)<=(y:Int)) then(bif decide ((256:Int)<=zal (y:Int) (2^min ((16:Int)).toNat 64)) then zd (zW zU (zal (zal (y:Int) (2^min ((16:Int)).toNat 64)) (2^min ((8:Int)).toNat 64))) (bs mI).size (some (zW zI (zW zI (zW zI ((n:Int)+16)+8)+zW zI (ze (bs mI) (zW zU (zal (zal (y:Int) (2^min ((16:Int)).toNat 64)) (2^min ((8:Int)).toNat 64))).toNat)))) else zd (zW zU (zal (y:Int) (2^min ((16:Int)).toNat 64))) (bs mI).size (some (zW zI (zW zI ((n:Int)+16)+zW zI (ze (bs mI) (zW zU (zal (y:Int) (2^min ((16:Int)).toNat 64))).toNat))))) else
  (bif decide ((256:Int)<=(y:Int)) then zd (zW zU (zal (y:Int) (2^min ((8:Int)).toNat 64))) (bs mI).size (some (zW zI (zW zI ((n:Int)+8)+zW zI (ze (bs mI) (zW zU (zal (y:Int) (2^min ((8:Int)).toNat 64))).toNat)))) else zd (zW zU (y:Int)) (bs mI).size (some (zW zI ((n:Int)+zW zI (ze (bs mI) (zW zU (y:Int)).toNat))))))=some (((n+gC y:Nat):Int)):=by
  intro n y hn hy;by_cases h:65536<=y
  ·rw[zT (by omega),zC,f16,zi (x:=(n:Int)+16) (by omega) (by omega)];have:=hc (n+16) (y/2^16) (by omega) (by omega);rw[show((n:Int)+16)=((n+16:Nat):Int) from rfl,this,zba (k:=16) h];congr 2;omega
  ·rw[zF (by omega),zD];exact hc n y (by omega) (by omega)
 by_cases h:4294967296<=x
 ·rw[zT (by omega),zC,f32];have:=hb 32 (x/2^32) (by omega) (by omega);rw[show((32:Nat):Int)=32 from rfl] at this;rw[this,zba (k:=32) h];congr 2;omega
 ·rw[zF (by omega),zD];have:=hb 0 x (by omega) (by omega);rw[show((0:Nat):Int)=0 from rfl] at this;rw[this];congr 2;omega
theorem zbt(x:Nat)(hx:x<18446744073709551616):nz x=some (((64-gC x:Nat)):Int):=by unfold nz zpq;have:=TJ (k:=64) hx;rw[ajD x hx,zc,zi (by omega) (by omega)];congr 1;omega
end bz

namespace bz
open Go.IntKind renaming wrap->zW,i64->zI,u8->zU
open Go Go.Ref
abbrev yz:=Int×Int×Unit
abbrev dm:Nat:=18446744073709551616
def bQ(h l:Nat)(n:Int):Bool:=
 if 1<=n/\n<=64 then h.testBit (64-n).toNat else if 65<=n/\n<=128 then l.testBit (128-n).toNat else false
def iT(n:Int):Nat:=if 1<=n/\n<=64 then 2^(64-n).toNat else 0
def iU(n:Int):Nat:=if 65<=n/\n<=128 then 2^(128-n).toNat else 0
theorem zwe{k:Nat}(h:k<64):2^k<dm:=Nat.pow_lt_pow_right (by decide) h
theorem zsh(n:Int):iT n<dm:=by
 unfold iT;split
 ·exact zwe (by omega)
 ·decide
theorem zsi(n:Int):iU n<dm:=by
 unfold iU;split
 ·exact zwe (by omega)
 ·decide
theorem XR{k:Nat}(h:k<64):IntKind.u64.wrap ((1:Int)*2^min k 64)=((2^k:Nat):Int):=by
 rw[zaQ (by omega),Int.one_mul];have:=zwe h;have e:((2:Int)^k)=((2^k:Nat):Int):=by simp
 rw[e];exact OA this
theorem YE(n:Int):Nd n=some ((iT n:Int),(iU n:Int),()):=by
 unfold Nd zyy iT iU;by_cases h1:n<1
 ·rw[zT h1,if_neg (by omega),if_neg (by omega)];rfl
 rw[zF h1,zD];by_cases h2:128<n
 ·rw[zT h2,if_neg (by omega),if_neg (by omega)];rfl
 rw[zF h2,zD];by_cases h3:n<=64
 ·rw[zT h3,zC,zi (by omega) (by omega),zF (by omega),zD,XR (by omega),if_pos (by omega),if_neg (by omega)];rfl
 ·rw[zF h3,zD,zi (by omega) (by omega),zF (by omega),zD,XR (by omega),if_neg (by omega),if_pos (by omega)];rfl
theorem zb7(h k:Nat):(h&&&2^k=0)↔h.testBit k=false:=by
 constructor
 ·intro e;have:=congrArg (λx=>x.testBit k) e;simpa [zdS,zcs] using this
 ·intro e;apply zdB;intro i;rw[zdS,zcs];by_cases hi:k=i
  ·subst hi;simp [e]
  ·simp [hi]
theorem ap3(h l:Nat)(hh:h<dm)(hl:l<dm)(n:Int):Pn ((h:Int),(l:Int),()) n=some (bQ h l n):=by
 unfold Pn zyv uw zk2;rw[YE,zc,nI hh (zsh n),nI hl (zsi n),zc];congr 1;simp only[zcV];have e:∀a:Nat,decide ((a:Int)=0)=decide (a=0):=λa=>decide_eq_decide.2 (by omega);rw[e,e];unfold iT iU bQ;by_cases h1:1<=n/\n<=64
 ·rw[if_pos h1,if_pos h1,if_neg (by omega)];have:=zb7 h (64-n).toNat;cases hb:h.testBit (64-n).toNat with
  |false=>simp [this.2 hb]
  |true=>simp;intro hz;exact absurd (this.1 hz) (by simp [hb])
 ·rw[if_neg h1,if_neg h1];by_cases h2:65<=n/\n<=128
  ·rw[if_pos h2,if_pos h2];have:=zb7 l (128-n).toNat;cases hb:l.testBit (128-n).toNat with
   |false=>simp [this.2 hb]
   |true=>simp;intro hz;exact absurd (this.1 hz) (by simp [hb])
  ·rw[if_neg h2,if_neg h2];simp
theorem zgs(h l h' l':Nat)(hh:h<dm)(hl:l<dm)(Gu:h'<dm)(lQ:l'<dm):vT ((h:Int),(l:Int),()) ((h':Int),(l':Int),())=some (((h|||h':Nat):Int),((l|||l':Nat):Int),()):=by unfold vT zyu;rw[AO hh Gu,AO hl lQ]
theorem Wy(h l h' l':Nat)(hh:h<dm)(hl:l<dm)(Gu:h'<dm)(lQ:l'<dm):uw ((h:Int),(l:Int),()) ((h':Int),(l':Int),())=some (((h&&&h':Nat):Int),((l&&&l':Nat):Int),()):=by unfold uw zk2;rw[nI hh Gu,nI hl lQ]
theorem Xh(h l:Nat)(hh:h<dm)(hl:l<dm)(n:Int):C4 ((h:Int),(l:Int),()) n=some (((h|||iT n:Nat):Int),((l|||iU n:Nat):Int),()):=by unfold C4 zyx;rw[YE,zc,zgs h l _ _ hh hl (zsh n) (zsi n)];rfl
theorem sE{a b:Nat}(ha:a<dm)(hb:b<dm):a|||b<dm:=Nat.or_lt_two_pow (n:=64) ha hb
theorem YC{a b:Nat}(ha:a<dm):a&&&b<dm:=zdV zeJ ha
theorem arl(h l h' l':Nat)(n:Int):bQ (h|||h') (l|||l') n=(bQ h l n||bQ h' l' n):=by
 unfold bQ;split
 ·rw[Nat.testBit_or]
 ·split
  ·rw[Nat.testBit_or]
  ·rfl
theorem Xq(h l h' l':Nat)(n:Int):bQ (h&&&h') (l&&&l') n=(bQ h l n&&bQ h' l' n):=by
 unfold bQ;split
 ·rw[zdS]
 ·split
  ·rw[zdS]
  ·rfl
def jh(n:Int):Bool:=decide (1<=n/\n<=128)
theorem apF(m n:Int):bQ (iT m) (iU m) n=(decide (m=n)&&jh n):=by
 unfold bQ iT iU jh;by_cases h1:1<=n/\n<=64
 ·rw[if_pos h1];by_cases h2:1<=m/\m<=64
  ·rw[if_pos h2,zcs,zT (p:=1<=n/\n<=128) (by omega),zcV];exact decide_eq_decide.2 (by omega)
  ·rw[if_neg h2,zF (by omega:¬m=n)];simp
 ·rw[if_neg h1];by_cases h3:65<=n/\n<=128
  ·rw[if_pos h3];by_cases h2:65<=m/\m<=128
   ·rw[if_pos h2,zcs,zT (p:=1<=n/\n<=128) (by omega),zcV];exact decide_eq_decide.2 (by omega)
   ·rw[if_neg h2,zF (by omega:¬m=n)];simp
  ·rw[if_neg h3,zF (p:=1<=n/\n<=128) (by omega),zbW]
theorem VL(h l:Nat)(m n:Int):bQ (h|||iT m) (l|||iU m) n=(bQ h l n||(decide (m=n)&&jh n)):=by rw[arl,apF]
theorem zlw{h l:Nat}{n:Int}(hh:bQ h l n=true):1<=n/\n<=128:=by
 unfold bQ at hh;split at hh
 ·omega
 ·split at hh
  ·omega
  ·cases hh
theorem zss{h l h' l':Nat}(hh:h<dm)(hl:l<dm)(Gu:h'<dm)(lQ:l'<dm)(e:∀n:Int,1<=n->n<=128->bQ h l n=bQ h' l' n):h=h'/\l=l':=by
 constructor
 ·apply zdB;intro i;by_cases hi:i<64
  ·have:=e (64-i) (by omega) (by omega);unfold bQ at this;rw[if_pos (by omega),if_pos (by omega)] at this;have e2:(64-(64-(i:Int))).toNat=i:=by omega
   rwa [e2] at this
  ·rw[zaZ (zbh hh (zaI (n:=2) (by decide) (by omega:64<=i))),zaZ (zbh Gu (zaI (n:=2) (by decide) (by omega:64<=i)))]
 ·apply zdB;intro i;by_cases hi:i<64
  ·have:=e (128-i) (by omega) (by omega);unfold bQ at this;have h1:¬(1<=128-(i:Int)/\128-(i:Int)<=64):=by omega
   have h2:65<=128-(i:Int)/\128-(i:Int)<=128:=by omega
   rw[if_neg h1,if_pos h2,if_neg h1,if_pos h2] at this;have e2:(128-(128-(i:Int))).toNat=i:=by omega
   rwa [e2] at this
  ·rw[zaZ (zbh hl (zaI (n:=2) (by decide) (by omega:64<=i))),zaZ (zbh lQ (zaI (n:=2) (by decide) (by omega:64<=i)))]
def cE(l:List Int):Nat:=l.foldl (λa n=>a|||iT n) 0
def cK(l:List Int):Nat:=l.foldl (λa n=>a|||iU n) 0
theorem SS(f:Int->Nat)(hf:∀n,f n<dm)(l:List Int):∀a,a<dm->l.foldl (λa n=>a|||f n) a<dm:=by
 induction l with
 |nil=>intro a h;exact h
 |cons x r ih=>intro a h;exact ih _ (sE h (hf x))
theorem oK(l:List Int):cE l<dm:=SS _ zsh l 0 (by decide)
theorem pZ(l:List Int):cK l<dm:=SS _ zsi l 0 (by decide)
theorem amr(l:List Int):∀(a b:Nat) (n:Int),bQ (l.foldl (λa n=>a|||iT n) a) (l.foldl (λa n=>a|||iU n) b) n=(bQ a b n||(decide (n∈l)&&jh n)):=by
 induction l with
 |nil=>intro a b n;simp
 |cons x r ih=>
  intro a b n;rw[za3,za3,ih,VL];by_cases h1:x=n
  ·subst h1;cases jh x<;>simp
  ·have:n≠x:=λe=>h1 e.symm;simp [h1,this]
theorem yr(l:List Int)(n:Int):bQ (cE l) (cK l) n=(decide (n∈l)&&jh n):=by
 unfold cE cK;rw[amr];have:bQ 0 0 n=false:=by unfold bQ;simp
 rw[this];simp
theorem apM(xs:List Int)(hx:xs.length<=9223372036854775807)(b0:yz):∀(n j k:Nat) (a b:Nat),j+n=xs.length->n<k->a<dm->b<dm->
 FG k xs (xs.length:Int) j b0 ((a:Int),(b:Int),())=some (b0,((((xs.drop j).foldl (λa n=>a|||iT n) a:Nat):Int),(((xs.drop j).foldl (λa n=>a|||iU n) b:Nat):Int),())):=by
 intro n
 induction n with
 |zero=>
  intro j k a b hj hk ha hb;obtain⟨k,rfl⟩:∃k',k=k'+1:=⟨k-1,by omega⟩
  rw[FG,zk1,zF (by omega),GA (by omega)];rfl
 |succ n ih=>
  intro j k a b hj hk ha hb;obtain⟨k,rfl⟩:∃k',k=k'+1:=⟨k-1,by omega⟩
  have ap:j<xs.length:=by omega
  have RT:xs.getD ((j:Int)).toNat 0=xs[j]:=by rw[ba,be,ks ap];rfl
  rw[FG,zk1,zT (by omega),zC,zh ap,RT,Xh a b ha hb,zc,zq (by omega),ih (j+1) k _ _ (by omega) (by omega) (sE ha (zsh _)) (sE hb (zsi _)),AT ap];rfl
theorem CU(xs:List Int)(hx:xs.length<=maxLen):xO xs=some ((cE xs:Int),(cK xs:Int),()):=by rw[zj] at hx;unfold xO zys;have:=apM xs hx (0,0,()) xs.length 0 af 0 0 (by omega) (by rw[zo];omega) (by decide) (by decide);simp only[zyt];have e:FG af xs (xs.length:Int) 0 (0,0,()) (0,0,())=_:=this;rw[e];rfl
def og:List Int:=(List.range 128).map λk:Nat=>((k+1:Nat):Int)
theorem z222(n:Int):n∈og↔1<=n/\n<=128:=by
 unfold og;constructor
 ·intro h;obtain⟨k,hk,rfl⟩:=zau.1 h;have:=List.mem_range.1 hk;omega
 ·intro h;exact zau.2 ⟨(n-1).toNat,List.mem_range.2 (by omega),by omega⟩
theorem aeo:og.Pairwise (· < ·):=by unfold og;exact List.Pairwise.map _ (λa b h=>by omega) List.pairwise_lt_range
def elems(h l:Nat):List Int:=og.filter (bQ h l)
theorem Zh(h l:Nat)(n:Int):n∈elems h l↔bQ h l n=true:=by unfold elems;rw[zab,z222];exact⟨λh=>h.2,λh=>⟨zlw h,h⟩⟩
theorem zll(h l:Nat):(elems h l).Pairwise (· < ·):=aeo.filter _
def jl(h l:Nat)(n:Int):Int:=((elems h l).filter λm=>decide (n<m)).headD 0
def zwv(h l:Nat)(n r:Int):Prop:=(r=0/\∀m,n<m->bQ h l m=false)\/(n<r/\bQ h l r=true/\∀m,n<m->m<r->bQ h l m=false)
theorem amL(h l:Nat)(n:Int):zwv h l n (jl h l n):=by
 unfold jl;cases hf:(elems h l).filter λm=>decide (n<m) with
 |nil=>
  left;refine⟨rfl,λm hm=> ?_⟩;cases hb:bQ h l m with
  |false=>rfl
  |true=>have:m∈(elems h l).filter λm=>decide (n<m):=zab.2 ⟨(Zh h l m).2 hb,by simpa using hm⟩;rw[hf] at this;cases this
 |cons x r=>
  right;have hx:x∈(elems h l).filter λm=>decide (n<m):=by rw[hf];simp
  obtain⟨h1,h2⟩:=zab.1 hx;refine⟨by simpa using h2,(Zh h l x).1 h1,λm hm hmx=> ?_⟩;cases hb:bQ h l m with
  |false=>rfl
  |true=>
   have cQ:m∈(elems h l).filter λm=>decide (n<m):=zab.2 ⟨(Zh h l m).2 hb,by simpa using hm⟩;have hs:=(zll h l).filter (λm=>decide (n<m));rw[hf] at cQ hs;rcases If.1 cQ with e|e
   ·simp only[List.headD_cons] at hmx;omega
   ·have:=(zak.1 hs).1 m e;simp only[List.headD_cons] at hmx;omega
theorem ac5{h l:Nat}{n r q:Int}(h1:zwv h l n r)(h2:zwv h l n q):r=q:=by
 rcases h1 with⟨e,a⟩|⟨e,a,b⟩<;>rcases h2 with⟨e',a'⟩|⟨e',a',b'⟩
 ·rw[e,e']
 ·rw[a q e'] at a';cases a'
 ·rw[a' r e] at a;cases a
 ·rcases Int.lt_trichotomy r q with h|h|h
  ·rw[b' r e h] at a;cases a
  ·exact h
  ·rw[b q e' h] at a';cases a'
theorem U7(x n:Nat)(hx:x<dm)(hn:n<=64):
 (x*2^n % dm=0/\∀i,i<64-n->x.testBit i=false)\/
 (x*2^n % dm≠0/\gC (x*2^n % dm)<=64/\n<gC (x*2^n % dm)/\x.testBit (gC (x*2^n % dm)-1-n)=true/\∀i,gC (x*2^n % dm)-1-n<i->i<64-n->x.testBit i=false):=by
 have hb:∀i,(x*2^n % dm).testBit i=(decide (i<64)&&(decide (n<=i)&&x.testBit (i-n))):=by intro i;rw[show dm=2^64 from rfl,Nat.testBit_mod_two_pow,Nat.testBit_mul_two_pow]
 generalize x*2^n % dm=r at hb;have hr:∀i,i<64-n->x.testBit i=r.testBit (i+n):=by intro i hi;rw[hb,zT (by omega),zT (by omega),Nat.add_sub_cancel];rfl
 by_cases h0:r=0
 ·left;refine⟨h0,λi hi=> ?_⟩;rw[hr i hi,h0];simp
 ·right;obtain⟨g1,g2⟩:=z8k r;obtain⟨g3,g4⟩:=g2 h0;have aaG:r.testBit (gC r-1)=true:=by
   rw[Nat.testBit_eq_decide_div_mod_eq];have hp:=zf9 (gC r-1);have:r/2^(gC r-1)=1:=by
    apply Nat.div_eq_of_lt_le
    ·omega
    ·have:2^gC r=2*2^(gC r-1):=by rw[<-Nat.pow_succ'];congr 1;omega
     omega
   rw[this];rfl
  have ap:=aaG;rw[hb] at ap;simp only[nd,decide_eq_true_eq] at ap;refine⟨h0,by omega,by omega,?_,λi h1 h2=> ?_⟩
  ·exact ap.2.2
  ·rw[hr i h2];exact zaZ (zbh g1 (zaI (by decide) (by omega)))
theorem XQ(x n:Nat)(hn:n<=64):IntKind.u64.wrap ((x:Int)*2^min ((n:Int)).toNat 64)=((x*2^n % dm:Nat):Int):=by
 rw[XU,ba,zaQ hn];have e:((x:Int)*2^n)=((x*2^n:Nat):Int):=by simp
 rw[e];rfl
theorem Wz(h l:Nat)(hh:h<dm)(hl:l<dm)(n:Int)(hn1: -9223372036854775808<=n)(Rx:n<=9223372036854775807):Nc ((h:Int),(l:Int),()) n=some (jl h l n):=by
 have goal:∀r,zwv h l n r->some r=some (jl h l n):=λr hr=>by rw[ac5 hr (amL h l n)]
 unfold Nc zyw;obtain⟨m,hm,hmn⟩:∃m:Nat,(if n<(0:Int) then(0:Int) else n)=(m:Int)/\(n<=(m:Int)/\(0<=n->n=m)/\(n<0->m=0)):=by
  by_cases h0:n<0
  ·exact⟨0,by rw[if_pos h0];rfl,by omega,by omega,by omega⟩
  ·exact⟨n.toNat,by rw[if_neg h0];omega,by omega,by omega,by omega⟩
 have kr:∀k:Int,k<=0->bQ h l k=false:=λk hk=>by unfold bQ;rw[if_neg (by omega),if_neg (by omega)]
 have low:∀(lI base:Nat),lI<=64->(lI<64->base=64+lI)->(lI=64->128<=base)->(m:Int)<=base->base<=9223372036854775807->(∀k,n<k->k<=base->k<=128->bQ h l k=false)->
  (bif !(decide (IntKind.u64.wrap ((l:Int)*2^min ((lI:Int)).toNat 64)=0)) then(nz (IntKind.u64.wrap ((l:Int)*2^min ((lI:Int)).toNat 64))).bind (λr=>some (zW zI (zW zI ((base:Int)+r)+1))) else some 0)=some (jl h l n):=by
  intro lI base h1 h2 h2' h3 arx h4;rw[XQ l lI h1];have ap:l*2^lI % dm<dm:=Nat.mod_lt _ (by decide);rcases U7 l lI hl h1 with⟨e,w⟩|⟨e,w1,w2,w3,w4⟩
  ·rw[e,zT (by rfl)];refine goal 0 (.inl ⟨rfl,λk hk=> ?_⟩);by_cases Gy:k<=base/\k<=128
   ·exact h4 k hk Gy.1 Gy.2
   ·unfold bQ;by_cases Nx:65<=k/\k<=128
    ·rw[if_neg (by omega),if_pos Nx];exact w _ (by omega)
    ·by_cases hk4:1<=k/\k<=64
     ·omega
     ·rw[if_neg hk4,if_neg Nx]
  ·have aaC:lI<64:=by omega
   have lf:=h2 aaC;rw[zF (by omega)];simp only[GW,zC];rw[zbt _ ap,zc,zi (x:=(base:Int)+_) (by omega) (by omega),zi (by omega) (by omega)];refine goal _ (.inr ⟨by omega,?_,λk hk1 Gy=> ?_⟩)
   ·unfold bQ;rw[if_neg (by omega),if_pos (by omega)];have:(128-((base:Int)+((64-gC (l*2^lI % dm):Nat):Int)+1)).toNat=gC (l*2^lI % dm)-1-lI:=by omega
    rw[this];exact w3
   ·by_cases Nx:k<=base
    ·exact h4 k hk1 Nx (by omega)
    ·unfold bQ;rw[if_neg (by omega),if_pos (by omega)];exact w4 _ (by omega) (by omega)
 simp only[hm];by_cases c1:m<64
 ·rw[zT (by omega),zC,zF (by omega),zD,XQ h m (by omega)];have ap:h*2^m % dm<dm:=Nat.mod_lt _ (by decide);rcases U7 h m hh (by omega) with⟨e,w⟩|⟨e,w1,w2,w3,w4⟩
  ·rw[e,zT (by rfl)];have:=low 0 64 (by omega) (by omega) (by omega) (by omega) (by omega) (λk hk1 Gy _=>by
    by_cases Nx:1<=k
    ·unfold bQ;rw[if_pos (by omega)];exact w _ (by omega)
    ·exact kr k (by omega))
   exact this
  ·rw[zF (by omega)];simp only[GW,zC];rw[zbt _ ap,zc,zi (x:=(m:Int)+_) (by omega) (by omega),zi (by omega) (by omega)];refine goal _ (.inr ⟨by omega,?_,λk hk1 Gy=> ?_⟩)
   ·unfold bQ;rw[if_pos (by omega)];have:(64-((m:Int)+((64-gC (h*2^m % dm):Nat):Int)+1)).toNat=gC (h*2^m % dm)-1-m:=by omega
    rw[this];exact w3
   ·by_cases Nx:1<=k
    ·unfold bQ;rw[if_pos (by omega)];exact w4 _ (by omega) (by omega)
    ·exact kr k (by omega)
 ·rw[zF (by omega),zD,zi (x:=(m:Int)-64) (by omega) (by omega)];have Aw:((m:Int)-64)=((m-64:Nat):Int):=by omega
  obtain⟨lI,hs,GK⟩:∃lI:Nat,(if(64:Int)<(m:Int)-64 then(64:Int) else(m:Int)-64)=(lI:Int)/\lI<=64/\(lI<64->m=64+lI)/\(lI=64->128<=m):=by
   by_cases h0:(64:Int)<(m:Int)-64
   ·exact⟨64,by rw[if_pos h0];rfl,by omega,by omega,by omega⟩
   ·exact⟨m-64,by rw[if_neg h0];omega,by omega,by omega,by omega⟩
  simp only[hs];rw[zF (by omega),zD];exact low lI m GK.1 GK.2.1 GK.2.2 (by omega) (by omega) (λk hk1 Gy _=>by omega)
theorem UC(n a:Nat)(h:a<2^n):(BitVec.ofInt n (a:Int)).toNat=a:=by
 rw[BitVec.toNat_ofInt];have h2:((a:Int)% ((2^n:Nat):Int))=((a % 2^n:Nat):Int):=by rfl
 rw[h2,ba,Nat.mod_eq_of_lt h]
theorem adB{k:IntKind}{a b:Nat}(ha:a<2^k.bits)(hb:b<2^k.bits):aU .or k a b=k.wrap ((a|||b:Nat):Int):=by simp only[aU,BitVec.toNat_or,UC _ _ ha,UC _ _ hb]
def gi(b:List Int):Int:=if b.length<2 then 0 else b.getD 0 0*256+b.getD 1 0
theorem zwd{x y:Int}(hx:zn x)(hy:zn y):aU .or .i64 (zW zI (zW zI x*2^min (8:Int).toNat 64)) (zW zI y)=x*256+y:=by
 unfold zn at hx hy;obtain⟨x,rfl⟩:=zfP hx.1;obtain⟨y,rfl⟩:=zfP hy.1;rw[yq (by omega),yq (by omega)];have h1:((x:Int)*(2:Int)^min (8:Int).toNat 64)=((x<<<8:Nat):Int):=by rw[Nat.shiftLeft_eq];rfl
 have h3:x<<<8=x*256:=by rw[Nat.shiftLeft_eq]
 rw[h1,yq (by omega),adB (by simp only[zb4];omega) (by simp only[zb4];omega),<-Nat.shiftLeft_add_eq_or_of_lt (by omega:y<2^8),h3,yq (by omega)];omega
theorem L3{b:List Int}(hb:∀x∈b,zn x)(i:Nat):zn (b.getD i 0):=by
 rw[be];cases h:b[i]? with
 |none=>exact⟨by simp,by simp⟩
 |some x=>exact hb x (List.mem_of_getElem? h)
theorem zmm{b:List Int}(hb:∀x∈b,zn x):0<=gi b/\gi b<=65535:=by unfold gi;have h0:=L3 hb 0;have h1:=L3 hb 1;unfold zn at h0 h1;split<;>omega
abbrev Fr:=Int×Bool×List Int×Unit
theorem apX(m:Int)(d:Bool)(b:List Int)(hb:∀x∈b,zn x):Pq (m,d,b,())=some (gi b,(m,d,b,())):=by
 unfold Pq zz3 gi;simp only;by_cases h:b.length<2
 ·rw[zT (by omega:((b.length:Int)<2)),if_pos h];rfl
 ·rw[zF (by omega:¬((b.length:Int)<2)),if_neg h,zD,zl (by omega) (by omega),zl (by omega) (by omega)];exact congrArg some (Prod.ext (zwd (L3 hb 0) (L3 hb 1)) rfl)
def aM(m:Int)(st:Bool×List Int×List ByteArray)(c:Int):Bool×List Int×List ByteArray:=
 if st.1=true then st
 else if(st.2.1++ [c]).length=2/\(gi (st.2.1++ [c])=0\/m<gi (st.2.1++ [c])) then(true,[],st.2.2)
 else if((st.2.1++ [c]).length:Int)=2+gi (st.2.1++ [c])/\0<gi (st.2.1++ [c]) then(false,[],st.2.2++ [strOf ((st.2.1++ [c]).drop 2)])
 else(false,st.2.1++ [c],st.2.2)
theorem L2(m:Int)(l:List Int)(b:List Int)(o:List ByteArray):l.foldl (aM m) (true,b,o)=(true,b,o):=by
 induction l with
 |nil=>rfl
 |cons c r ih=>rw[za3];have:aM m (true,b,o) c=(true,b,o):=by simp [aM]
               rw[this,ih]
def zf5(m:Int)(d:Bool)(r:Bool×List Int×List ByteArray):Sum (List ByteArray×Bool×List ByteArray×Fr) (List ByteArray×Fr):=
 if r.1=true/\d=false then .inl (r.2.2,true,r.2.2,(m,true,[],())) else .inr (r.2.2,(m,r.1,r.2.1,()))
theorem ae3(m:Int)(l:List Int):∀(d:Bool) (b:List Int) (o:List ByteArray),d=false->(l.foldl (aM m) (d,b,o)).1=true->(l.foldl (aM m) (d,b,o)).2.1=[]:=by
 induction l with
 |nil=>intro d b o hd h;subst hd;cases h
 |cons c r ih=>
  intro d b o hd h;subst hd;rw[za3] at h⊢;generalize bY:aM m (false,b,o) c=st at h⊢;obtain⟨d',b',o'⟩:=st;cases d' with
  |false=>exact ih false b' o' rfl h
  |true=>
   rw[L2];unfold aM at bY;simp only[Bool.false_eq_true,if_false] at bY;split at bY
   ·cases bY;rfl
   ·split at bY<;>cases bY
theorem T9(s:ByteArray)(m:Int):∀(n j k:Nat) (o:List ByteArray) (d:Bool) (b:List Int),j+n=(bl s).length->n<k->(∀x∈b,zn x)->b.length+n<=4398046511104->o.length+n<=4398046511104->(bl s).length<=4398046511104->
 MT k s o j (m,d,b,())=some (zf5 m d (((bl s).drop j).foldl (aM m) (d,b,o)))
 |0,j,k,o,d,b,hj,hk,hb,h1,h2,h3=>by
  obtain⟨k,rfl⟩:∃k',k=k'+1:=⟨k-1,by omega⟩
  rw[MT,zk3];have ap:¬((j:Int)<(s.size:Int)):=by rw[<-zf];omega
  rw[zF ap,GA (by omega)];cases d<;>rfl
 |n+1,j,k,o,d,b,hj,hk,hb,h1,h2,h3=>by
  obtain⟨k,rfl⟩:∃k',k=k'+1:=⟨k-1,by omega⟩
  rw[MT,zk3];have ap:j<(bl s).length:=by omega
  have gO:((j:Int)<(s.size:Int)):=by rw[<-zf];omega
  rw[zT gO,zC,AT ap,za3];cases d with
  |true=>
   have hs:aM m (true,b,o) (bl s)[j]=(true,b,o):=by simp [aM]
   rw[hs,L2];simp [zf5]
  |false=>
   have hc:ze s ((j:Int)).toNat=(bl s)[j]:=by rw[lW,ba,be,ks ap];rfl
   have hbc:zn (bl s)[j]:=ii (zan ap);generalize hcv:(bl s)[j]=c at hc hbc;rw[hc];have wG:∀x∈b++ [c],zn x:=λx hx=>by
    rcases M2.1 hx with h|h
    ·exact hb x h
    ·simp at h;subst h;exact hbc
   have dd:=apX m false (b++ [c]) wG;have hr:=zmm wG;have hw:zW zI ((2:Int)+gi (b++ [c]))=2+gi (b++ [c]):=zi (by omega) (by omega);have hjw:zW zI ((j:Int)+1)=((j+1:Nat):Int):=zq (by omega);have hl:(b++ [c]).length=b.length+1:=by simp
   rw[zh (by rw[<-zf];exact ap)];simp only[GW,zC];rw[zT (by simp;omega),zC,dd];simp only[zc,hw,hjw];generalize hn:gi (b++ [c])=z at hr hw;have ih:=λo d b=>T9 s m n (j+1) k o d b (by omega) (by omega);have hfs:aM m (false,b,o) c=if(b++ [c]).length=2/\(z=0\/m<z) then(true,[],o) else if((b++ [c]).length:Int)=2+z/\0<z then(false,[],o++ [strOf ((b++ [c]).drop 2)]) else(false,b++ [c],o):=by unfold aM;simp only[Bool.false_eq_true,if_false,hn]
   have dead:∀(l:List Int),zf5 m false (l.foldl (aM m) (true,[],o))= .inl (o,true,o,(m,true,[],())):=λl=>by rw[L2];simp [zf5]
   have Gx:=ih o false (b++ [c]) wG (by rw[hl];omega) (by omega) h3;have aan:=ih (o++ [strOf ((b++ [c]).drop 2)]) false [] (by simp) (by simp;omega) (by simp;omega) h3;have Re:List.drop ((2:Int)).toNat (List.take (b++ [c]).length (b++ [c]))=(b++ [c]).drop 2:=by rw[zaH];rfl
   simp only[Re];have aas:∀(x:Option (Sum (List ByteArray×Bool×List ByteArray×Fr) (List ByteArray×Fr))),(bif decide (((o.length+ [strOf ((b++ [c]).drop 2)].length)*16:Nat)<=140737488355328) then x else none)=x:=λx=>by rw[zT (by simp;omega)];rfl
   by_cases c1:(b++ [c]).length=2
   ·by_cases c2:z=0
    ·rw[hfs,if_pos ⟨c1,.inl c2⟩,dead];simp [c1,c2]
    ·by_cases c3:m<z
     ·rw[hfs,if_pos ⟨c1,.inr c3⟩,dead];simp [c1,c2,c3]
     ·rw[hfs,if_neg (by simp [c2,c3])];have c4:¬(((b++ [c]).length:Int)=2+z):=by omega
      rw[if_neg (λh=>c4 h.1),<-Gx];have c1':(((b++ [c]).length:Int)=2):=by omega
      rw[zT c1',zF c2,zF c3,zF c4];rfl
   ·have c1':¬(((b++ [c]).length:Int)=2):=by omega
    rw[hfs,if_neg (λh=>c1 h.1),zF c1'];by_cases c4:((b++ [c]).length:Int)=2+z
    ·by_cases c5:0<z
     ·rw[if_pos ⟨c4,c5⟩,<-aan,zT c4,zT c5,zT (by omega:(2:Int)<=(((b++ [c]).length:Nat):Int))];simp only[zC,zD];rw[aas]
     ·rw[if_neg (λh=>c5 h.2),<-Gx,zT c4,zF c5];rfl
    ·rw[if_neg (λh=>c4 h.1),<-Gx,zF c4];rfl
def feed(f:Fr)(s:List Int):List ByteArray×Bool×Fr:=
 ((s.foldl (aM f.1) (f.2.1,f.2.2.1,[])).2.2,decide ((s.foldl (aM f.1) (f.2.1,f.2.2.1,[])).1=true/\f.2.1=false),(f.1,(s.foldl (aM f.1) (f.2.1,f.2.2.1,[])).1,(s.foldl (aM f.1) (f.2.1,f.2.2.1,[])).2.1,()))
theorem apC(f:Fr)(s:ByteArray)(hb:∀x∈f.2.2.1,zn x)(h1:f.2.2.1.length+s.size<=4398046511104):FV f s=some (feed f (bl s)):=by
 obtain⟨m,d,b,u⟩:=f;cases u;unfold FV zz0;simp only at hb h1⊢;have:=T9 s m (bl s).length 0 af [] d b (by omega) (by rw[zo,zf];omega) hb (by rw[zf];omega) (by simp;rw[zf];omega) (by rw[zf];omega);rw[show((0:Nat):Int)=0 from rfl] at this;rw[this,zc,GS];unfold zf5 feed;simp only;split
 ·rename_i h;obtain⟨h4,h5⟩:=h;subst h5;have h3:=ae3 m (bl s) false b [] rfl h4;simp [zek,zz1,h3,h4]
 ·rename_i h;simp only[zaA,zz2];rw[zF h]
section
variable {α:Type} [DecidableEq α]
theorem z138(d:α)(eq:α->α->Bool)(heq:∀x y,eq x y=true↔x=y)(a b:List α)(hl:a.length=b.length)(h:a.length<=9223372036854775807)(L:Nat->Int->Option (Sum Bool Unit))
 (step:∀k (i:Int),L (k+1) i=bif decide (i<(a.length:Int)) then zd i a.length (zd i b.length (bif !(eq (a.getD i.toNat d) (b.getD i.toNat d)) then some (.inl false) else L k (zW zI (i+1)))) else some (.inr ())):
 ∀(m j k:Nat),j+m=a.length->m<k->L k j=some (if a.drop j=b.drop j then .inr () else .inl false)
 |0,j,k,hj,hk=>by
  obtain⟨k,rfl⟩:∃k',k=k'+1:=⟨k-1,by omega⟩
  rw[step,zF (by omega),GA (by omega),GA (by omega)];simp
 |m+1,j,k,hj,hk=>by
  obtain⟨k,rfl⟩:∃k',k=k'+1:=⟨k-1,by omega⟩
  have ha:j<a.length:=by omega
  have hb:j<b.length:=by omega
  rw[step,zT (by omega),zC,zh ha,zh hb,zq (by omega),z138 d eq heq a b hl h L step m (j+1) k (by omega) (by omega),AT ha,AT hb,ba];have h1:a.getD j d=a[j]:=by rw[be,ks ha];rfl
  have h2:b.getD j d=b[j]:=by rw[be,ks hb];rfl
  rw[h1,h2];by_cases e:a[j]=b[j]
  ·rw[(heq _ _).2 e,e];simp only[List.cons.injEq,true_and,ab,zD]
  ·have:eq a[j] b[j]=false:=by
    cases hh:eq a[j] b[j] with
    |false=>rfl
    |true=>exact absurd ((heq _ _).1 hh) e
   rw[this];simp only[List.cons.injEq,e,false_and,if_false,GW,zC]
theorem ai0(d:α)(eq:α->α->Bool)(heq:∀x y,eq x y=true↔x=y)(a b:List α)(hl:a.length=b.length)(h:a.length<=maxLen)(L:Nat->Int->Option (Sum Bool Unit))
 (step:∀k (i:Int),L (k+1) i=bif decide (i<(a.length:Int)) then zd i a.length (zd i b.length (bif !(eq (a.getD i.toNat d) (b.getD i.toNat d)) then some (.inl false) else L k (zW zI (i+1)))) else some (.inr ())):
 L af 0=some (if a=b then .inr () else .inl false):=by
 have:=z138 d eq heq a b hl (by rw[zj] at h;exact h) L step a.length 0 af (by omega) (by rw[zo];rw[zj] at h;omega);simpa using this
end
def fx(m:Int)(pos:Int)(l:List Int):List ByteArray×List Int×List Int×Int:=
 if h:l.length<2 then([],l,[],-1)
 else if gi l=0\/m<gi l then([],[],[],pos+2)
 else if(l.length:Int)-2<gi l then([],l,[],-1)
 else
  let r:=fx m (pos+2+gi l) (l.drop (2+(gi l).toNat))
  (strOf ((l.drop 2).take (gi l).toNat)::r.1,r.2.1,(pos+2+gi l)::r.2.2.1,r.2.2.2)
termination_by l.length
decreasing_by simp only[zaD];omega
def zmd(e:Sum (ByteArray×(List ByteArray)×Int×(List Int)×Int×(List ByteArray)×(List Int)×Int) (ByteArray×(List ByteArray)×(List Int)×Int)):Option ((List ByteArray)×Int×(List Int)×Int):=
 GB (λwe=>some (we.2.1,we.2.2.1,we.2.2.2.1,we.2.2.2.2.1)) (λwe=>some (we.2.1,zW zI ((we.1.size:Int)-we.2.2.2),we.2.2.1,-1)) e
theorem T1(l:List Int)(j i:Nat):(l.drop j).getD i 0=l.getD (j+i) 0:=by simp [be,List.getElem?_drop]
theorem amV(m:Int)(s:ByteArray)(hs:(bl s).length<=1099511627776):∀(n j k:Nat) (o:List ByteArray) (e:List Int),(bl s).length-j<=n->j<=(bl s).length->n<k->o.length+n<=2199023255552->e.length+n<=2199023255552->
 (Oa k m s o e j).bind zmd=some (o++(fx m j ((bl s).drop j)).1,((fx m j ((bl s).drop j)).2.1.length:Int),e++(fx m j ((bl s).drop j)).2.2.1,(fx m j ((bl s).drop j)).2.2.2):=by
 intro n
 induction n using Nat.strongRecOn with
 |_ n ih=>
 intro j k o e hn hj hk ho he;obtain⟨k,rfl⟩:∃k',k=k'+1:=⟨k-1,by omega⟩
 rw[Oa,zpa];have dd:s.size=(bl s).length:=(zf s).symm;generalize hl:(bl s).drop j=l;have Gz:l.length=(bl s).length-j:=by rw[<-hl,zaD]
 have Aw:zW zI ((s.size:Int)-(j:Int))=((l.length:Nat):Int):=by rw[dd,Gz,zi (by omega) (by omega)];omega
 rw[Aw,fx];by_cases c0:l.length<2
 ·rw[zF (by omega:¬((2:Int)<=(l.length:Int))),dif_pos c0];simp only[zD,zc,zmd,zaA];rw[Aw];simp
 rw[zT (by omega:((2:Int)<=(l.length:Int))),zC,dif_neg c0];have hx:ze s ((j:Int)).toNat=l.getD 0 0:=by rw[lW,<-hl,T1];simp
 have hj1:zW zI ((j:Int)+1)=((j+1:Nat):Int):=zq (by omega);have hj2:zW zI ((j:Int)+2)=((j+2:Nat):Int):=by rw[zi (by omega) (by omega)];omega
 have hy:ze s (((j+1:Nat):Int)).toNat=l.getD 1 0:=by rw[lW,<-hl,T1];simp
 have hlb:∀x∈l,zn x:=λx hx=>ii (zb1 (by rw[hl];exact hx));have bx:=L3 hlb 0;have b_y:=L3 hlb 1;have hz:=zmm hlb;have hzz:gi l=l.getD 0 0*256+l.getD 1 0:=by unfold gi;rw[if_neg c0]
 unfold zn at bx b_y;have w1:zW zI (l.getD 0 0)=l.getD 0 0:=zi (by omega) (by omega);have w2:zW zI (l.getD 1 0)=l.getD 1 0:=zi (by omega) (by omega);have w3:zW zI (l.getD 0 0*256)=l.getD 0 0*256:=zi (by omega) (by omega);have w4:zW zI (l.getD 0 0*256+l.getD 1 0)=gi l:=by rw[<-hzz];exact zi (by omega) (by omega)
 generalize gi l=z at*;have w5:zW zI (((j+2:Nat):Int)+z)=((j+2+z.toNat:Nat):Int):=by rw[zi (by omega) (by omega)];omega
 have w6:zW zI (((l.length:Nat):Int)-2)=(l.length:Int)-2:=zi (by omega) (by omega);simp only[hj1,hj2,hx,hy,w1,w2,w3,w4,w5,w6];rw[zh (by omega),zh (by omega)];by_cases c1:z=0
 ·rw[zT c1,if_pos (.inl c1)];simp [zmd]
 rw[zF c1,zD];by_cases c2:m<z
 ·rw[zT c2,if_pos (.inr c2)];simp [zmd]
 rw[zF c2,if_neg (by simp [c1,c2]),zD];by_cases c3:(l.length:Int)-2<z
 ·rw[zT c3,if_pos c3];simp [zmd,Aw]
 rw[zF c3,if_neg c3];simp only[zD];rw[zT (by omega:(0:Int)<=((j+2+z.toNat:Nat):Int)),zT (by omega:((j+2+z.toNat:Nat):Int)<=((s.size:Nat):Int)),zT (by omega:(0:Int)<=((j+2:Nat):Int))];simp only[zC,ba];rw[zT (by omega:((j+2:Nat):Int)<=((j+2+z.toNat:Nat):Int)),zT (by simp;omega),zT (by simp;omega)];simp only[zC];have bY:s.extract (j+2) (j+2+z.toNat)=strOf ((l.drop 2).take z.toNat):=by apply xK;rw[ue (λx hx=>hlb x (zb1 (List.mem_of_mem_take hx))),xC,<-hl,List.drop_drop,List.drop_take];congr 1;omega
 have:=ih (n-(2+z.toNat)) (by omega) (j+2+z.toNat) k (o++ [s.extract (j+2) (j+2+z.toNat)]) (e++ [((j+2+z.toNat:Nat):Int)]) (by omega) (by omega) (by omega) (by simp;omega) (by simp;omega);rw[this,bY];have hd:(bl s).drop (j+2+z.toNat)=l.drop (2+z.toNat):=by rw[<-hl,List.drop_drop];congr 1;omega
 rw[hd];have hp:((j+2+z.toNat:Nat):Int)=(j:Int)+2+z:=by omega
 rw[hp];simp
theorem zwf(m:Int)(s:ByteArray)(hs:s.size<=1099511627776):nw m s=some ((fx m 0 (bl s)).1,((fx m 0 (bl s)).2.1.length:Int),(fx m 0 (bl s)).2.2.1,(fx m 0 (bl s)).2.2.2):=by have:=amV m s (by rw[zf];exact hs) (bl s).length 0 af [] [] (by omega) (by omega) (by rw[zo,zf];omega) (by simp;rw[zf];omega) (by simp;rw[zf];omega);unfold nw zp9;rw[show((0:Nat):Int)=0 from rfl] at this;simp only[GS,zah] at this;exact this
end bz

namespace bz
open Go.IntKind renaming wrap->zW,i64->zI,u8->zU
open Go Go.Ref
theorem VH{l:List Int}{j:Nat}(h:j<l.length):l.getD ((j:Int)).toNat 0=l[j]:=by rw[ba,be,ks h];rfl
theorem ais(l:List Int)(n:Int)(hl:l.length<=maxLen):∀(m j k:Nat),j+m=l.length->m<k->
 M3 k l n j=some (if n∈l.drop j then .inl true else .inr ()):=by
 intro m;rw[zj] at hl
 induction m with
 |zero=>
  intro j k hj hk;obtain⟨k,rfl⟩:∃k',k=k'+1:=⟨k-1,by omega⟩
  rw[M3,zke,zF (by omega),GA (by omega)];simp
 |succ m ih=>
  intro j k hj hk;obtain⟨k,rfl⟩:∃k',k=k'+1:=⟨k-1,by omega⟩
  have ap:j<l.length:=by omega
  rw[M3,zke,zT (by omega),zC,zh ap,VH ap,zq (by omega),AT ap];by_cases h:l[j]=n
  ·rw[zT h,if_pos (by rw[h];simp)];rfl
  ·rw[zF h,zD,ih (j+1) k (by omega) (by omega)];have:n≠l[j]:=λe=>h e.symm;simp only[If,this,false_or]
theorem zmu(l:List Int)(n:Int)(hl:l.length<=maxLen):xQ l n=some (decide (n∈l)):=by
 unfold xQ Bv;dsimp only;have:=ais l n hl l.length 0 af (by omega) (by rw[zo];rw[zj] at hl;omega);rw[show((0:Nat):Int)=0 from rfl,GS] at this;rw[this,zc];by_cases h:n∈l
 ·rw[if_pos h,zT h];rfl
 ·rw[if_neg h,zF h];rfl
theorem z229:og.length=128:=by unfold og;simp
def bT(l:List Int)(base:Nat):Nat->Nat
 |0=>0
 |m+1=>2*bT l base m+(if((base+m+1:Nat):Int)∈l then 1 else 0)
theorem zgo(l:List Int)(base m:Nat):bT l base (m+1)=2*bT l base m+(if((base+m+1:Nat):Int)∈l then 1 else 0):=rfl
theorem Zu(l:List Int)(base:Nat):∀m,bT l base m<2^m
 |0=>by simp [bT]
 |m+1=>by have:=Zu l base m;rw[bT,zdL];split<;>omega
theorem zmt(l:List Int)(base:Nat):∀m i,i<m->(bT l base m).testBit i=decide (((base+m-i:Nat):Int)∈l)
 |0,i,h=>absurd h (Nat.not_lt_zero i)
 |m+1,0,h=>by
  rw[bT,Nat.testBit_zero,Nat.sub_zero];have e:base+(m+1)=base+m+1:=by omega
  rw[e];by_cases hm:((base+m+1:Nat):Int)∈l
  ·rw[if_pos hm,zT hm];exact zT (by omega)
  ·rw[if_neg hm,zF hm];exact zF (by omega)
 |m+1,i+1,h=>by
  rw[bT,Nat.testBit_succ];have e:(2*bT l base m+(if((base+m+1:Nat):Int)∈l then 1 else 0))/2=bT l base m:=by split<;>omega
  rw[e,zmt l base m i (by omega)];have e2:base+(m+1)-(i+1)=base+m-i:=by omega
  rw[e2]
theorem anb(l:List Int)(n:Int):bQ (bT l 0 64) (bT l 64 64) n=(decide (n∈l)&&jh n):=by
 unfold bQ jh;by_cases h1:1<=n/\n<=64
 ·rw[if_pos h1,zmt l 0 64 _ (by omega),zT (p:=1<=n/\n<=128) (by omega),zcV];have:((0+64-(64-n).toNat:Nat):Int)=n:=by omega
  rw[this]
 ·rw[if_neg h1];by_cases h2:65<=n/\n<=128
  ·rw[if_pos h2,zmt l 64 64 _ (by omega),zT (p:=1<=n/\n<=128) (by omega),zcV];have:((64+64-(128-n).toNat:Nat):Int)=n:=by omega
   rw[this]
  ·rw[if_neg h2,zF (p:=1<=n/\n<=128) (by omega),zbW]
theorem zwq(l:List Int):bT l 0 64=cE l/\bT l 64 64=cK l:=
 zss (Zu l 0 64) (Zu l 64 64) (oK l) (pZ l) (λn _ _=>by rw[anb,yr])
abbrev Spec:=Int×Int×Int×Int×Int×Unit
abbrev zg:=Int×Int×List Spec×Unit
abbrev dk:Spec:=(0,0,0,0,0,())
theorem zst(c:Int):CX c=some (if c=1 then 1 else if c=2 then 2 else if c=3 then 3 else if c=4 then 7 else if c=5 then 15 else if c=6 then 15 else 0):=by
 unfold CX zy4;simp only[apk]
 repeat' split
 all_goals rfl
theorem zu0(c:Int):FT c=some (decide (1<=c/\c<=6)):=by
 unfold FT zxv;rw[zst,zc];congr 1;by_cases h1:c=1
 ·subst h1;rfl
 by_cases h2:c=2
 ·subst h2;rfl
 by_cases h3:c=3
 ·subst h3;rfl
 by_cases h4:c=4
 ·subst h4;rfl
 by_cases h5:c=5
 ·subst h5;rfl
 by_cases h6:c=6
 ·subst h6;rfl
 rw[if_neg h1,if_neg h2,if_neg h3,if_neg h4,if_neg h5,if_neg h6,zF (p:=1<=c/\c<=6) (by omega)];rfl
theorem O7:s7 2=some 99:=by kernel_rfl
theorem O8:s7 3=some 999:=by kernel_rfl
def bM(s:Spec):Int:=
 if s.1<2\/128<s.1 then 1 else if s.2.1<1\/6<s.2.1 then 6 else if s.2.2.1<1\/3<s.2.2.1 then 3
 else if s.2.2.2.1<1\/s.2.2.2.2.1<s.2.2.2.1\/(s.2.2.1=2/\99<s.2.2.2.2.1)\/999<s.2.2.2.2.1\/(s.2.2.1=1/\¬s.2.2.2.1=s.2.2.2.2.1) then 5
 else if s.2.2.1=1/\s.2.1=6 then 13 else 0
theorem z59(s:Spec):mM s=some (bM s):=by
 obtain⟨no,c,f,mn,mx,u⟩:=s;unfold mM zra bM;simp only[zu0,zc];by_cases h1:no<2\/128<no
 ·rw[if_pos h1];rcases h1 with h|h
  ·rw[zT h];rfl
  ·rw[zT h];cases decide (no<2)<;>rfl
 rw[if_neg h1,zF (by omega),zF (by omega)];by_cases h2:c<1\/6<c
 ·rw[if_pos h2,zF (p:=1<=c/\c<=6) (by omega)];rfl
 rw[if_neg h2,zT (p:=1<=c/\c<=6) (by omega)];simp only[zD,ab];by_cases h3:f<1\/3<f
 ·rw[if_pos h3];rcases h3 with h|h
  ·rw[zT h];rfl
  ·rw[zT h];cases decide (f<1)<;>rfl
 rw[if_neg h3,zF (by omega),zF (by omega)];simp only[zD];by_cases h4:mn<1\/mx<mn\/999<mx
 ·rw[if_pos (by omega)];by_cases a:mn<1
  ·rw[zT a];rfl
  rw[zF a];by_cases b:mx<mn
  ·rw[zT b];rfl
  rw[zF b,zT (by omega)];rfl
 rw[zF (by omega),zF (by omega),zF (by omega)];simp only[zD];by_cases f1:f=1
 ·rw[zT f1];simp only[zC,ab,zD];by_cases e:mn=mx
  ·rw[zT e,if_neg (by omega)];by_cases e6:c=6
   ·rw[zT e6,if_pos (by omega)];rfl
   ·rw[zF e6,if_neg (by omega)];rfl
  ·rw[zF e,if_pos (by omega)];rfl
 ·rw[zF f1];simp only[zD,GW,zC];by_cases f2:f=2
  ·subst f2;rw[O7,zc];by_cases h:99<mx
   ·rw[zT h,if_pos (by omega)];rfl
   ·rw[zF h,if_neg (by omega),if_neg (by omega)];rfl
  ·have f3:f=3:=by omega
   subst f3;rw[O8,zc,zF (by omega),if_neg (by omega),if_neg (by omega)];rfl
theorem xx(s:Spec):xS s=some (bM s):=by
 obtain⟨no,c,f,mn,mx,u⟩:=s;unfold xS BN bM;simp only;by_cases h1:no<2\/128<no
 ·rw[if_pos h1];rcases h1 with h|h
  ·rw[zT h];rfl
  ·rw[zT h];cases decide (no<2)<;>rfl
 rw[if_neg h1,zF (by omega),zF (by omega)];by_cases h2:c<1\/6<c
 ·rw[if_pos h2];rcases h2 with h|h
  ·rw[zT h];rfl
  ·rw[zT h];cases decide (c<1)<;>rfl
 rw[if_neg h2,zF (by omega),zF (by omega)];by_cases h3:f<1\/3<f
 ·rw[if_pos h3];rcases h3 with h|h
  ·rw[zT h];rfl
  ·rw[zT h];cases decide (f<1)<;>rfl
 rw[if_neg h3,zF (by omega),zF (by omega)];simp only[zD];by_cases f1:f=1
 ·rw[zT f1,zF (by omega:¬f=2)];simp only[zC,zD];by_cases a:mn<1
  ·rw[zT a,if_pos (by omega)];rfl
  rw[zF a];by_cases b:mx<mn
  ·rw[zT b,if_pos (by omega)];rfl
  rw[zF b];by_cases d:999<mx
  ·rw[zT d,if_pos (by omega)];rfl
  rw[zF d];by_cases e:mn=mx
  ·rw[zT e,if_neg (by omega)];by_cases e6:c=6
   ·rw[zT e6,if_pos (by omega)];rfl
   ·rw[zF e6,if_neg (by omega)];rfl
  ·rw[zF e,if_pos (by omega)];rfl
 ·rw[zF f1];simp only[zD];by_cases f2:f=2
  ·rw[zT f2];simp only[zC];by_cases a:mn<1
   ·rw[zT a,if_pos (by omega)];rfl
   rw[zF a];by_cases b:mx<mn
   ·rw[zT b,if_pos (by omega)];rfl
   rw[zF b];by_cases d:99<mx
   ·rw[zT d,if_pos (by omega)];rfl
   rw[zF d,if_neg (by omega),if_neg (by omega)];rfl
  ·rw[zF f2];simp only[zD];by_cases a:mn<1
   ·rw[zT a,if_pos (by omega)];rfl
   rw[zF a];by_cases b:mx<mn
   ·rw[zT b,if_pos (by omega)];rfl
   rw[zF b];by_cases d:999<mx
   ·rw[zT d,if_pos (by omega)];rfl
   rw[zF d,if_neg (by omega),if_neg (by omega)];rfl
def iL:List Spec->Int->Int->Int×Int
 | [],_,_=>(0,0)
 |x::r,i,last=>if bM x≠0 then(bM x,i) else if x.1<=last then(11,i) else iL r (i+1) x.1
def ij(s:zg):Int×Int:=
 if¬(s.1=1\/s.1=2) then(1,-1) else if s.2.1<0\/9<s.2.1 then(7,-1) else iL s.2.2.1 0 0
theorem zgk{x:Spec}(h:bM x=0):2<=x.1/\x.1<=128:=by
 unfold bM at h;split at h
 ·cases h
 ·omega
def aah(e:Sum (Int×Int) Unit):Option (Int×Int):=GB (λwe=>some (we.1,we.2)) (λ_=>some (0,0)) e
theorem T8(l:List Spec):∀(i:Int) (last:Int),aah (if(iL l i last).1=0 then .inr () else .inl (iL l i last))=some (iL l i last):=by
 intro i last;by_cases h:(iL l i last).1=0
 ·rw[if_pos h];have:iL l i last=(0,0):=by
   induction l generalizing i last with
   |nil=>rfl
   |cons x r ih=>
    unfold iL at h⊢;split
    ·rename_i h1;rw[if_pos h1] at h;exact absurd h h1
    ·rename_i h1;rw[if_neg h1] at h;split
     ·rename_i h2;rw[if_pos h2] at h;cases h
     ·rename_i h2;rw[if_neg h2] at h;exact ih _ _ h
  rw[this];rfl
 ·rw[if_neg h];rfl
theorem adq(s:zg)(hl:s.2.2.1.length<=maxLen):CK af 0 0 s=some (if(iL s.2.2.1 0 0).1=0 then .inr () else .inl (iL s.2.2.1 0 0)):=by
 have h:=gf dk s.2.2.1 hl (λi x (last:Int) K=>if bM x≠0 then some (.inl (bM x,i)) else if x.1<=last then some (.inl (11,i)) else K x.1) (λ_=>some (.inr ())) (λk i last=>CK k last i s)
  (λk i last h0 h1=>by
    rw[CK,zkr,zT h1];simp only[zC,zl h0 h1,xx,zc];by_cases hc:bM (s.2.2.1.getD i.toNat dk)=0
    ·rw[zT hc,if_neg (λh=>h hc)];simp only[ab,zD];by_cases hn:(s.2.2.1.getD i.toNat dk).1<=last
     ·rw[zT hn,if_pos hn];rfl
     ·rw[zF hn,if_neg hn];rfl
    ·rw[zF hc,if_pos hc];rfl)
  (λk last=>by rw[CK,zkr,zF (by omega)];rfl) 0
 rw[h];clear h hl;generalize s.2.2.1=l
 suffices∀(i last:Int),aV (λi (x:Spec) (last:Int) K=>if bM x≠0 then some (Sum.inl (bM x,i)) else if x.1<=last then some (.inl (11,i)) else K x.1) (λ_=>some (.inr ())) l i last=some (if(iL l i last).1=0 then(.inr ():Sum (Int×Int) Unit) else .inl (iL l i last)) from this 0 0
 induction l with
 |nil=>intro i last;rfl
 |cons x r ih=>
  intro i last;rw[aV,iL];by_cases hc:bM x≠0
  ·rw[if_pos hc,if_pos hc,if_neg hc]
  ·rw[if_neg hc,if_neg hc];by_cases hn:x.1<=last
   ·rw[if_pos hn,if_pos hn];rfl
   ·rw[if_neg hn,if_neg hn];exact ih _ _
theorem aev(s:zg)(hl:s.2.2.1.length<=maxLen):PJ s=some (ij s):=by
 unfold PJ OW ij;have hx:=T8 s.2.2.1 0 0;have wP:(CK af 0 0 s).bind (λe=>GB (λ(we:Int×Int)=>BT we.1 we.2 λa0 a1=>some (a0,a1)) (λ(we:Unit)=>BU λa0 a1=>some (a0,a1)) e)=some (iL s.2.2.1 0 0):=by rw[adq s hl,zc];exact hx
 dsimp only;rw[wP];by_cases h1:s.1=1
 ·rw[zT h1,if_neg (by omega)];by_cases h2:s.2.1<0
  ·rw[zT h2,if_pos (.inl h2)];rfl
  ·rw[zF h2];by_cases h3:9<s.2.1
   ·rw[zT h3,if_pos (.inr h3)];rfl
   ·rw[zF h3,if_neg (by omega)];rfl
 ·rw[zF h1];by_cases h0:s.1=2
  ·rw[zT h0,if_neg (by omega)];by_cases h2:s.2.1<0
   ·rw[zT h2,if_pos (.inl h2)];rfl
   ·rw[zF h2];by_cases h3:9<s.2.1
    ·rw[zT h3,if_pos (.inr h3)];rfl
    ·rw[zF h3,if_neg (by omega)];rfl
  ·rw[zF h0,if_pos (by omega)];rfl
theorem aip{l:List Spec}{j:Nat}(h:j<l.length):l.getD ((j:Int)).toNat ((0:Int),(0:Int),(0:Int),(0:Int),(0:Int),())=l[j]:=by rw[ba,be,ks h];rfl
theorem iq(s:zg)(hl:s.2.2.1.length<=9223372036854775807):∀(m j k:Nat) (last:Int),j+m=s.2.2.1.length->m<k->(j=0->last=0)->(∀h:0<j,last=(s.2.2.1.getD (j-1) dk).1)->
 Fz k s.2.2.1 (s.2.2.1.length:Int) j s=some (if(iL (s.2.2.1.drop j) j last).1=0 then .inr () else .inl (iL (s.2.2.1.drop j) j last)):=by
 intro m
 induction m with
 |zero=>
  intro j k last hj hk h0 h1;obtain⟨k,rfl⟩:∃k',k=k'+1:=⟨k-1,by omega⟩
  rw[Fz,ze1,zF (by omega),GA (by omega)];rfl
 |succ m ih=>
  intro j k last hj hk h0 h1;obtain⟨k,rfl⟩:∃k',k=k'+1:=⟨k-1,by omega⟩
  have ap:j<s.2.2.1.length:=by omega
  have ihj:=ih (j+1) k (s.2.2.1[j]).1 (by omega) (by omega) (by omega) (λ_=>by rw[Nat.add_sub_cancel,be,ks ap];rfl)
  rw[Fz,ze1,zT (by omega),zC,zh ap,aip ap,z59,zc,zq (by omega),AT ap];rw[show((j+1:Nat):Int)=(j:Int)+1 from rfl] at ihj⊢;by_cases hc:bM s.2.2.1[j]=0
  ·rw[zT hc];simp only[ab,zD];have oP:=zgk hc;by_cases hz:j=0
   ·have nT:=h0 hz;have e:iL (s.2.2.1[j]::s.2.2.1.drop (j+1)) j last=iL (s.2.2.1.drop (j+1)) ((j:Int)+1) (s.2.2.1[j]).1:=by rw[iL,if_neg (λh=>h hc),if_neg (by omega)]
    rw[zF (by omega),zD,e];exact ihj
   ·have nT:=h1 (by omega);have hi:zW zI ((j:Int)-1)=((j-1:Nat):Int):=by rw[zi (by omega) (by omega)];omega
    rw[zT (by omega),zC,hi,zh (by omega),ba];by_cases hn:(s.2.2.1[j]).1<=last
    ·have e:iL (s.2.2.1[j]::s.2.2.1.drop (j+1)) j last=(11,(j:Int)):=by rw[iL,if_neg (λh=>h hc),if_pos hn]
     rw[e,zT (by rw[<-nT];exact hn)];rfl
    ·have e:iL (s.2.2.1[j]::s.2.2.1.drop (j+1)) j last=iL (s.2.2.1.drop (j+1)) ((j:Int)+1) (s.2.2.1[j]).1:=by rw[iL,if_neg (λh=>h hc),if_neg hn]
     rw[e,zF (by rw[<-nT];exact hn)];exact ihj
  ·have e:iL (s.2.2.1[j]::s.2.2.1.drop (j+1)) j last=(bM s.2.2.1[j],(j:Int)):=by rw[iL,if_pos hc]
   rw[zF hc,e,if_neg hc];rfl
theorem Zj(s:zg)(hl:s.2.2.1.length<=maxLen):nB s=some (ij s):=by
 rw[zj] at hl;unfold nB Od ij;have hx:=T8 s.2.2.1 0 0;have Rp:=iq s hl s.2.2.1.length 0 af 0 (by omega) (by rw[zo];omega) (λ_=>rfl) (λh=>absurd h (by omega));rw[GS,show((0:Nat):Int)=0 from rfl] at Rp;have wP:(Fz af s.2.2.1 (s.2.2.1.length:Int) 0 s).bind (λe=>GB (λ(we:Int×Int)=>zqy we.1 we.2 λa0 a1=>some (a0,a1)) (λ(we:Unit)=>zqz λa0 a1=>some (a0,a1)) e)=some (iL s.2.2.1 0 0):=by rw[Rp,zc];exact hx
 dsimp only;rw[wP];by_cases h1:s.1=1
 ·rw[zT h1,if_neg (by omega)];by_cases h2:s.2.1<0
  ·rw[zT h2,if_pos (.inl h2)];rfl
  ·rw[zF h2];by_cases h3:9<s.2.1
   ·rw[zT h3,if_pos (.inr h3)];rfl
   ·rw[zF h3,if_neg (by omega)];rfl
 ·rw[zF h1];by_cases h0:s.1=2
  ·rw[zT h0,if_neg (by omega)];by_cases h2:s.2.1<0
   ·rw[zT h2,if_pos (.inl h2)];rfl
   ·rw[zF h2];by_cases h3:9<s.2.1
    ·rw[zT h3,if_pos (.inr h3)];rfl
    ·rw[zF h3,if_neg (by omega)];rfl
  ·rw[zF h0,if_pos (by omega)];rfl
def gM(l:List Spec)(no:Int):Option Spec:=l.find? λx=>decide (x.1=no)
def eX:List Spec->Int->Int->Int
 | [],_,_=> -1
 |x::r,no,i=>if x.1=no then i else eX r no (i+1)
theorem z232(s:zg)(no:Int)(hl:s.2.2.1.length<=maxLen):gk s no=some (match gM s.2.2.1 no with|some x=>(x,true)|none=>(dk,false)):=by
 unfold gk zr1 gM;dsimp only;have h:=cn dk s.2.2.1 hl (λi x (_:Unit) K=>bif decide (x.1=no) then some (Sum.inl (true,x)) else K ()) (λ_=>some (.inr dk)) (λk i _=>ze2 k no s.2.2.1 (s.2.2.1.length:Int) i dk) (λk i _=>rfl) ();rw[h,];clear h hl;generalize(0:Int)=i;generalize s.2.2.1=l
 induction l generalizing i with
 |nil=>rfl
 |cons x r ih=>
  rw[aV,zbB];cases hx:decide (x.1=no) with
  |true=>rfl
  |false=>exact ih (i+1)
theorem ae8(l:List Spec)(no:Int):∀i:Int,0<=i->(eX l no i= -1/\gM l no=none)\/(i<=eX l no i/\eX l no i<i+l.length/\∃x,gM l no=some x/\l.getD (eX l no i-i).toNat dk=x):=by
 induction l with
 |nil=>intro i hi;left;exact⟨rfl,rfl⟩
 |cons x r ih=>
  intro i hi;unfold eX gM;by_cases h:x.1=no
  ·right;rw[if_pos h,zbB,zT h];refine⟨by omega,by simp;omega,x,rfl,by simp⟩
  ·rw[if_neg h,zbB,zF h];rcases ih (i+1) (by omega) with⟨h1,h2⟩|⟨h1,h2,y,h3,h4⟩
   ·left;exact⟨h1,h2⟩
   ·right;refine⟨by omega,by simp;omega,y,h3,?_⟩;have:(eX r no (i+1)-i).toNat=(eX r no (i+1)-(i+1)).toNat+1:=by omega
    rw[this];simpa using h4
theorem Fq(s:zg)(no:Int)(hl:s.2.2.1.length<=maxLen):uy s no=some (eX s.2.2.1 no 0):=by
 unfold uy BX;dsimp only;have h:=cn dk s.2.2.1 hl (λi x (_:Unit) K=>bif decide (x.1=no) then some (Sum.inl i) else K ()) (λ_=>some (.inr ())) (λk i _=>zks k no i s) (λk i _=>rfl) ();rw[h];clear h hl;generalize(0:Int)=i;generalize s.2.2.1=l
 induction l generalizing i with
 |nil=>rfl
 |cons x r ih=>
  rw[aV,eX];by_cases hx:x.1=no
  ·rw[zT hx,if_pos hx];rfl
  ·rw[zF hx,if_neg hx];exact ih (i+1)
theorem Uj(n:Int):bQ 0 0 n=false:=by unfold bQ;simp
theorem afk{a b:zg}:a=b↔a.1=b.1/\a.2.1=b.2.1/\a.2.2.1=b.2.2.1:=by obtain⟨x,y,z,u⟩:=a;obtain⟨x',y',z',u'⟩:=b;simp
instance:DecidableEq zg:=λa b=>decidable_of_iff _ afk.symm
theorem afB(s:zg)(h:s.2.2.1.length<=1000000):PK s=some s:=by unfold PK BV;rw[zT (by simp;omega)];rfl
def N1(l:List Spec)(last:Int):Prop:=(∀x∈l,bM x=0)/\(l.Pairwise λx y=>x.1<y.1)/\∀x∈l,last<x.1
theorem ai5(l:List Spec):∀(i last:Int),(iL l i last).1=0↔N1 l last:=by
 induction l with
 |nil=>intro i last;simp [iL,N1]
 |cons x r ih=>
  intro i last;unfold iL;by_cases hc:bM x=0
  ·rw[if_neg (λh=>h hc)];by_cases hn:x.1<=last
   ·rw[if_pos hn];constructor
    ·intro h;cases h
    ·intro⟨_,_,h3⟩;have:=h3 x (by simp);omega
   ·rw[if_neg hn,ih];constructor
    ·intro⟨h1,h2,h3⟩;refine⟨λy hy=> ?_,zak.2 ⟨h3,h2⟩,λy hy=> ?_⟩
     ·rcases If.1 hy with rfl|hy
      ·exact hc
      ·exact h1 y hy
     ·rcases If.1 hy with rfl|hy
      ·omega
      ·have:=h3 y hy;omega
    ·intro⟨h1,h2,h3⟩;obtain⟨h4,h5⟩:=zak.1 h2;exact⟨λy hy=>h1 y (by simp [hy]),h5,h4⟩
  ·rw[if_pos hc];constructor
   ·intro h;exact absurd h hc
   ·intro⟨h1,_,_⟩;exact absurd (h1 x (by simp)) hc
def jw(s:zg):Prop:=(s.1=1\/s.1=2)/\0<=s.2.1/\s.2.1<=9/\N1 s.2.2.1 0
theorem Ci(s:zg):(ij s).1=0↔jw s:=by
 unfold ij jw;by_cases h1:s.1=1\/s.1=2
 ·rw[if_neg (λh=>h h1)];by_cases h2:s.2.1<0\/9<s.2.1
  ·rw[if_pos h2];constructor
   ·intro h;cases h
   ·intro⟨_,a,b,_⟩;omega
  ·rw[if_neg h2,ai5];constructor
   ·intro h;exact⟨h1,by omega,by omega,h⟩
   ·intro⟨_,_,_,h⟩;exact h
 ·rw[if_pos h1];constructor
  ·intro h;cases h
  ·intro⟨a,_⟩;exact absurd a h1
theorem N1.filter{l:List Spec}{last:Int}(h:N1 l last)(p:Spec->Bool):N1 (l.filter p) last:=
 ⟨λx hx=>h.1 x (zab.1 hx).1,h.2.1.filter p,λx hx=>h.2.2 x (zab.1 hx).1⟩
theorem Y3(s:zg)(hl:s.2.2.1.length<=maxLen):yQ s=some (decide ((ij s).1=0)):=by unfold yQ BZ;rw[aev s hl,zc]
abbrev bG:=ByteArray×ByteArray×Unit
def jY:bG:=(bs [],bs [],())
instance aaO (a:ByteArray) (l:List ByteArray):Decidable (a∈l):=decidable_of_iff (l.any (λx=>decide (a=x))=true) (by rw[List.any_eq_true];exact⟨λ⟨x,hx,h⟩=>of_decide_eq_true h▸hx,λh=>⟨a,h,zT rfl⟩⟩)
def Gb(r:Int):Sum Int Unit:=if r= -1 then .inr () else .inl r
theorem Kb(j:Nat):Gb (j:Int)= .inl (j:Int):=if_neg (by omega)
def eh{K:Type}(l:List K):List (K×Bool):=l.map λk=>(k,true)
theorem zc3{K:Type}[DecidableEq K](eq:K->K->Bool)(heq:∀x y,eq x y=decide (x=y))(k:K):∀l:List K,fG eq false (eh l) k=true↔k∈l
 | []=>by simp [eh,fG]
 |x::l=>by
  simp only[eh,zaq,fG,heq];by_cases h:k=x
  ·rw[zT h,zC];exact⟨λ_=>by rw[h];exact IS,λ_=>rfl⟩
  ·rw[zF h,zD];have:=zc3 eq heq k l;simp only[eh] at this;rw[this];exact⟨λh'=>Cs _ h',λh'=>(If.1 h').resolve_left h⟩
theorem zc4{K:Type}[DecidableEq K](eq:K->K->Bool)(heq:∀x y,eq x y=decide (x=y))(k:K):∀l:List K,fH eq (eh l) k=true↔k∈l
 | []=>by simp [eh,fH]
 |x::l=>by
  simp only[eh,zaq,fH,heq];by_cases h:k=x
  ·rw[zT h,zC];exact⟨λ_=>by rw[h];exact IS,λ_=>rfl⟩
  ·rw[zF h,zD];have:=zc4 eq heq k l;simp only[eh] at this;rw[this];exact⟨λh'=>Cs _ h',λh'=>(If.1 h').resolve_left h⟩
theorem L6{b:Bool}{p:Prop}(h:b=true↔p)(hp:¬p):b=false:=by cases b with
 |false=>rfl
 |true=>exact absurd (h.1 rfl) hp
theorem zbo{K:Type}(l:List K)(k:K):eh l++ [(k,true)]=eh (l++ [k]):=by simp [eh]
def ko:List ByteArray->List bG->Int->Option Int
 |_,[],_=>none
 |seen,p::r,i=>if p.1∈seen then some i else ko (seen++ [p.1]) r (i+1)
def FN(l:List bG):Int×Int:=if 256<l.length then(5,256) else match ko [] l 0 with
 |some i=>(10,i)
 |none=>(0,0)
def Ai(o:Option Int):Option (Sum (Int×Int) Unit):=some (match o with
 |some i=> .inl (10,i)
 |none=> .inr ())
theorem acR(l:List bG):∀(i:Int) (seen:List ByteArray),
 aV (λi (x:bG) (s:List iH) K=>bif fG (gL .str) false s x.1 then some (Sum.inl ((10:Int),i)) else bif fH (gL .str) s x.1 then none else K (s++ [(x.1,true)])) (λ_=>some (Sum.inr ())) l i (eh seen)=Ai (ko seen l i):=by
 induction l with
 |nil=>intro i seen;rfl
 |cons p r ih=>
  intro i seen;simp only[aV,ko];have e1:=zc3 (gL .str) (λ_ _=>rfl) p.1 seen;have e2:=zc4 (gL .str) (λ_ _=>rfl) p.1 seen;by_cases h:p.1∈seen
  ·rw[e1.2 h,if_pos h];rfl
  ·rw[L6 e1 h,L6 e2 h,if_neg h,zD,zD,zbo];exact ih (i+1) (seen++ [p.1])
theorem acY(l:List bG)(h:l.length<=maxLen):Pg l=some (FN l):=by
 unfold Pg zyd FN;dsimp only;by_cases hl:256<l.length
 ·rw[zT (by omega),zC,if_pos hl]
 ·rw[zF (by omega),zD,if_neg hl];have:=cn jY l h (λi (x:bG) (s:List iH) K=>bif fG (gL .str) false s x.1 then some (Sum.inl ((10:Int),i)) else bif fH (gL .str) s x.1 then none else K (s++ [(x.1,true)])) (λ_=>some (Sum.inr ()))
   (λk i s=>zjl k l (l.length:Int) i s) (λk i s=>rfl) []
  rw[this];have h2:=acR l 0 [];rw[show eh ([]:List ByteArray)=[] from rfl] at h2;rw[h2];unfold Ai;cases ko [] l 0<;>rfl
def iC:List bG->ByteArray->Int->Int
 | [],_,_=> -1
 |p::r,f,i=>if p.1=f then i else iC r f (i+1)
theorem zt8(l:List bG)(hl:l.length<=9223372036854775807)(n:Nat)(hn:n<=l.length)(f:ByteArray):∀(m j k:Nat),j+m=n->m<k->Mf k l (n:Int) f (j:Int)=some (Gb (iC ((l.take n).drop j) f j))
 |m,j,0,_,hk=>by omega
 |0,j,k+1,hj,hk=>by
  have:j=n:=by omega
  subst this;unfold Mf ZC;rw[zF (by omega),GA (by rw[Of];omega)];rfl
 |m+1,j,k+1,hj,hk=>by
  have ap:j<l.length:=by omega
  unfold Mf ZC;rw[zT (by omega),zC,zh ap,ba];have hd:(l.take n).drop j=l[j]::(l.take n).drop (j+1):=by rw[AT (by simp;omega)];congr 1;rw[zcM]
  have hg:∀d,l.getD j d=l[j]:=λd=>by rw[be,ks ap];rfl
  rw[hd];simp only[hg,iC];by_cases h:l[j].1=f
  ·rw[zT h,if_pos h,Kb];rfl
  ·rw[zF h,if_neg h,zD,zq (by omega),zt8 l hl n hn f m (j+1) k (by omega) (by omega)];rfl
theorem Uc(l:List bG)(hl:l.length<=maxLen)(n:Nat)(hn:n<=l.length)(f:ByteArray):sW l (n:Int) f=some (iC (l.take n) f 0):=by
 rw[zj] at hl;unfold sW znk;dsimp only;have:=zt8 l hl n hn f n 0 af (by omega) (by rw[zo];omega);rw[show((0:Nat):Int)=(0:Int) from rfl,GS] at this;rw[this,ir];unfold Gb;by_cases h:iC (l.take n) f 0= -1
 ·rw[if_pos h,h];rfl
 ·rw[if_neg h];rfl
theorem Un(f:ByteArray):∀(l:List bG) (i:Int),0<=i->(0<=iC l f i↔f∈l.map λp=>p.1)
 | [],i,_=>by simp [iC]
 |p::r,i,hi=>by
  simp only[iC,zaq,If];by_cases h:p.1=f
  ·rw[if_pos h];exact⟨λ_=> .inl h.symm,λ_=>hi⟩
  ·rw[if_neg h,Un f r (i+1) (by omega)];exact⟨.inr,λh'=>h'.resolve_left (λe=>h e.symm)⟩
theorem zlb(l:List bG)(hl:l.length<=256):∀(m j k:Nat),j+m=l.length->m<k->Me k l (j:Int)=Ai (ko ((l.take j).map λp=>p.1) (l.drop j) j)
 |m,j,0,_,hk=>by omega
 |0,j,k+1,hj,hk=>by unfold Me ZB;rw[zF (by omega),GA (by omega)];rfl
 |m+1,j,k+1,hj,hk=>by
  have ap:j<l.length:=by omega
  unfold Me ZB;have hg:∀d,l.getD j d=l[j]:=λd=>by rw[be,ks ap];rfl
  rw[zT (by omega),zC,zh ap,ba,hg,Uc l (by rw[zj];omega) j (by omega),ir,AT ap];simp only[ko];have hm:=Un l[j].1 (l.take j) 0 (zaT _);by_cases h:l[j].1∈(l.take j).map λp=>p.1
  ·rw[zT (hm.2 h),if_pos h];rfl
  ·rw[zF (λh'=>h (hm.1 h')),if_neg h,zD,zq (by omega),zlb l hl m (j+1) k (by omega) (by omega)];congr 2;rw[List.take_add_one,ks ap,List.map_append];rfl
theorem aex(l:List bG)(h:l.length<=maxLen):u6 l=some (FN l):=by
 unfold u6 znf FN;dsimp only;by_cases hl:256<l.length
 ·rw[zT (by omega),zC,if_pos hl]
 ·rw[zF (by omega),zD,if_neg hl];have:=zlb l (by omega) l.length 0 af (by omega) (by rw[zo];omega);rw[show((0:Nat):Int)=(0:Int) from rfl,zbd,GS] at this;rw[this];unfold Ai;simp only[List.map_nil];cases ko [] l 0<;>rfl
def zt(l:List bG)(f:ByteArray):ByteArray×Bool:=match l.find? λp=>decide (p.1=f) with
 |some p=>(p.2.1,true)
 |none=>(bs [],false)
theorem zf3(f:ByteArray)(l:List bG):∀(i:Int),aV (λi (x:bG) (s:Unit) K=>bif decide (x.1=f) then some (Sum.inl (x.2.1,true)) else K s) (λ_=>some (Sum.inr ())) l i ()=some (match l.find? λp=>decide (p.1=f) with
 |some p=> .inl (p.2.1,true)
 |none=> .inr ()):=by
 induction l with
 |nil=>intro i;rfl
 |cons p r ih=>
  intro i;simp only[aV,zbB];by_cases h:p.1=f
  ·rw[zT h];rfl
  ·rw[zF h,zD];exact ih (i+1)
theorem acX(l:List bG)(f:ByteArray)(h:l.length<=maxLen):Pf l f=some (zt l f):=by
 unfold Pf zya zt;dsimp only;have:=cn jY l h (λi (x:bG) (s:Unit) K=>bif decide (x.1=f) then some (Sum.inl (x.2.1,true)) else K s) (λ_=>some (Sum.inr ()))
  (λk i s=>zjg k f l (l.length:Int) i) (λk i s=>rfl) ()
 rw[this,zf3];cases l.find? λp=>decide (p.1=f)<;>rfl
theorem Um(f:ByteArray):∀(l:List bG) (i:Int),0<=i->(iC l f i= -1/\l.find? (λp=>decide (p.1=f))=none)\/(i<=iC l f i/\iC l f i<i+l.length/\∃p,l.find? (λp=>decide (p.1=f))=some p/\∀d,l.getD (iC l f i-i).toNat d=p)
 | [],i,_=> .inl ⟨rfl,rfl⟩
 |p::r,i,hi=>by
  simp only[iC,zbB,ls];by_cases h:p.1=f
  ·rw[if_pos h,zT h];exact .inr ⟨zaT _,by omega,p,rfl,λd=>by simp⟩
  ·rw[if_neg h,zF h];rcases Um f r (i+1) (by omega) with⟨h1,h2⟩|⟨h1,h2,q,h3,h4⟩
   ·exact .inl ⟨h1,h2⟩
   ·refine .inr ⟨by omega,by omega,q,h3,λd=> ?_⟩;have:=h4 d;rw[show(iC r f (i+1)-i).toNat=(iC r f (i+1)-(i+1)).toNat+1 by omega,List.getD_cons_succ];exact this
theorem zfj(l:List bG)(f:ByteArray)(h:l.length<=maxLen):pa l f=some (zt l f):=by
 unfold pa znd zt;dsimp only;rw[Uc l h l.length (zag _),zaH,ir];rcases Um f l 0 (zaT _) with⟨h1,h2⟩|⟨h1,h2,p,h3,h4⟩
 ·rw[h1,h2];rfl
 ·rw[zF (by omega),zD,zl h1 (by omega),h3];have:=h4 ((bs []),(bs []),());rw[Int.sub_zero] at this;rw[this]
def mC(l:List bG):List bG:=l.map λp=>(p.2.1,p.1,())
theorem ajf(l:List bG):(mC l).length=l.length:=by simp [mC]
theorem Tr(l:List bG)(h:l.length<=1000000):sV l=some l:=by unfold sV zng;rw[zT (by simp;omega),zC,zah]
def kC(c b:Int):Bool:=
 if c=1 then decide (48<=b/\b<=57)
 else if c=2 then decide (65<=b/\b<=90\/97<=b/\b<=122)
 else if c=3 then decide (48<=b/\b<=57\/65<=b/\b<=90\/97<=b/\b<=122)
 else if c=4 then decide (32<=b/\b<=126)
 else decide (c=5\/c=6)
def jo(c:Int):Int:=if c=1 then 1 else if c=2 then 2 else if c=3 then 3 else if c=4 then 7 else if c=5 then 15 else if c=6 then 15 else 0
theorem arm:∀c:Fin 7,∀b:Fin 256,Db (c.1:Int) (b.1:Int)=some (kC (c.1:Int) (b.1:Int)):=by decide+kernel
theorem YN:∀c:Fin 7,∀b:Fin 256,(FU (b.1:Int)).map (λr=>decide (aU .and .i64 (jo (c.1:Int)) r=0))=some (!kC (c.1:Int) (b.1:Int)):=by decide+kernel
theorem TP(c:Int):(∃k:Fin 7,c=(k.1:Int))\/(c≠1/\c≠2/\c≠3/\c≠4/\c≠5/\c≠6):=by
 by_cases h:0<=c/\c<=6
 ·exact .inl ⟨⟨c.toNat,by omega⟩,by simp;omega⟩
 ·exact .inr ⟨by omega,by omega,by omega,by omega,by omega,by omega⟩
theorem nb{b:Int}(h:zn b):∃k:Fin 256,b=(k.1:Int):=by unfold zn at h;exact⟨⟨b.toNat,by omega⟩,by simp;omega⟩
theorem ang(c:Int){b:Int}(hb:zn b):Db c b=some (kC c b):=by
 obtain⟨b,rfl⟩:=nb hb;rcases TP c with⟨k,rfl⟩|⟨h1,h2,h3,h4,h5,h6⟩
 ·exact arm k b
 ·unfold Db Bp kC;simp only[h1,h2,h3,h4,h5,h6,decide_false,zD,if_false,or_self,Bool.cond_self]
theorem aiI(c:Int){b:Int}(hb:zn b):∃r,FU b=some r/\decide (aU .and .i64 (jo c) r=0)= !kC c b:=by
 obtain⟨b,rfl⟩:=nb hb;rcases TP c with⟨k,rfl⟩|⟨h1,h2,h3,h4,h5,h6⟩
 ·have:=YN k b;cases hc:FU (b.1:Int) with
  |none=>rw[hc] at this;cases this
  |some r=>rw[hc] at this;exact⟨r,rfl,by simpa using this⟩
 ·have:=YN 0 b;cases hc:FU (b.1:Int) with
  |none=>rw[hc] at this;cases this
  |some r=>
   rw[hc] at this;refine⟨r,rfl,?_⟩;have e1:jo c=jo ((0:Fin 7).1:Int):=by unfold jo;simp [h1,h2,h3,h4,h5,h6]
   have e2:kC c (b.1:Int)=kC ((0:Fin 7).1:Int) (b.1:Int):=by unfold kC;simp [h1,h2,h3,h4,h5,h6]
   rw[e1,e2];simpa using this
def sR(c:Int):List Int->Int->Int
 | [],_=> -1
 |b::r,i=>if kC c b=true then sR c r (i+1) else i
theorem ztb(c:Int):∀(l:List Int) (i:Int),0<=i->(0<=sR c l i↔¬l.all (kC c)=true)
 | [],i,_=>by simp [sR]
 |b::r,i,hi=>by
  simp only[sR,zdj];cases h:kC c b with
  |true=>rw[if_pos rfl,ztb c r (i+1) (by omega),zbC]
  |false=>simp [hi]
theorem SR(c:Int)(s:ByteArray)(hs:s.size<=9223372036854775807):∀(n j k:Nat),j+n=s.size->n<k->MO k s (jo c) (j:Int)=some (Gb (sR c ((bl s).drop j) j))
 |n,j,0,_,hk=>by omega
 |0,j,k+1,hj,hk=>by unfold MO zij;rw[zF (by omega),GA (by rw[zf];omega)];rfl
 |n+1,j,k+1,hj,hk=>by
  have ap:j<s.size:=by omega
  have hl:j<(bl s).length:=by rw[zf];exact ap
  have hb:zn ((bl s)[j]):=ii (zan hl);have hg:(bl s).getD j 0=(bl s)[j]:=by rw[be,ks hl];rfl
  unfold MO zij;rw[zT (by omega),zC,zh ap,ba,lW,hg,AT hl];obtain⟨r,h1,h2⟩:=aiI c hb;rw[h1,ir,h2];simp only[sR];cases h:kC c (bl s)[j] with
  |true=>rw[if_pos rfl,ab,zD,zq (by omega),SR c s hs n (j+1) k (by omega) (by omega)];rfl
  |false=>rw[if_neg (by simp),GW,zC,Kb]
theorem ajw(c:Int)(s:ByteArray)(h:s.size<=maxLen):Pc c s=some (sR c (bl s) 0):=by
 rw[zj] at h;unfold Pc zxr;dsimp only;rw[zst,ir];have:=SR c s h s.size 0 af (by omega) (by rw[zo];omega);rw[show((0:Nat):Int)=(0:Int) from rfl,GS] at this;rw[show(if c=1 then 1 else if c=2 then 2 else if c=3 then 3 else if c=4 then 7 else if c=5 then 15 else if c=6 then 15 else 0:Int)=jo c from rfl,this,ir];unfold Gb;by_cases h:sR c (bl s) 0= -1
 ·rw[if_pos h,h];rfl
 ·rw[if_neg h];rfl
theorem zlt(c:Int)(s:ByteArray)(hs:s.size<=9223372036854775807):∀(n j k:Nat),j+n=s.size->n<k->M1 k c s (j:Int)=some (Gb (sR c ((bl s).drop j) j))
 |n,j,0,_,hk=>by omega
 |0,j,k+1,hj,hk=>by unfold M1 zkd;rw[zF (by omega),GA (by rw[zf];omega)];rfl
 |n+1,j,k+1,hj,hk=>by
  have ap:j<s.size:=by omega
  have hl:j<(bl s).length:=by rw[zf];exact ap
  have hb:zn ((bl s)[j]):=ii (zan hl);have hg:(bl s).getD j 0=(bl s)[j]:=by rw[be,ks hl];rfl
  unfold M1 zkd;rw[zT (by omega),zC,zh ap,ba,lW,hg,AT hl,ang c hb,ir];simp only[sR];cases h:kC c (bl s)[j] with
  |true=>rw[if_pos rfl,ab,zD,zq (by omega),zlt c s hs n (j+1) k (by omega) (by omega)];rfl
  |false=>rw[if_neg (by simp),GW,zC,Kb]
theorem zfl(c:Int)(s:ByteArray)(h:s.size<=maxLen):PA c s=some (sR c (bl s) 0):=by
 rw[zj] at h;unfold PA Bn;dsimp only;have:=zlt c s h s.size 0 af (by omega) (by rw[zo];omega);rw[show((0:Nat):Int)=(0:Int) from rfl,GS] at this;rw[this,ir];unfold Gb;by_cases h:sR c (bl s) 0= -1
 ·rw[if_pos h,h];rfl
 ·rw[if_neg h];rfl
def CS(a b:Int):Bool:=decide (1<=a/\a<=6/\1<=b/\b<=6)&&decide (aU .andNot .i64 (jo b) (jo a)=0)
theorem al0(a b:Int):Pd a b=some (CS a b):=by
 unfold Pd zxy CS;rw[zu0,ir];by_cases ha:1<=a/\a<=6
 ·rw[zT ha,zC,zu0,ir];by_cases hb:1<=b/\b<=6
  ·rw[zT hb,zC,zst,ir,zst,ir,zT (show 1<=a/\a<=6/\1<=b/\b<=6 from⟨ha.1,ha.2,hb.1,hb.2⟩),zbC];rfl
  ·rw[zF hb,zD,zF (λh=>hb h.2.2)];rfl
 ·rw[zF ha,zD,zF (λh=>ha ⟨h.1,h.2.1⟩)];rfl
theorem ajo:∀a b:Fin 7,Ni (a.1:Int) (b.1:Int)=some (CS (a.1:Int) (b.1:Int)):=by decide+kernel
theorem Cb{c:Int}(h:1<=c/\c<=6):∃k:Fin 7,c=(k.1:Int):=⟨⟨c.toNat,by omega⟩,by simp;omega⟩
theorem zfv(a b:Int):Ni a b=some (CS a b):=by
 by_cases h:(1<=a/\a<=6)/\(1<=b/\b<=6)
 ·obtain⟨k,rfl⟩:=Cb h.1;obtain⟨m,rfl⟩:=Cb h.2;exact ajo k m
 ·unfold Ni Bs CS;rw[show decide (1<=a/\a<=6/\1<=b/\b<=6)=false from zF (λh'=>h ⟨⟨h'.1,h'.2.1⟩,h'.2.2⟩),Bool.false_and];by_cases h1:a<1
  ·rw[zT h1];rfl
  ·by_cases h2:(6:Int)<a
   ·rw[zF h1,zT h2];rfl
   ·by_cases h3:b<1
    ·rw[zF h1,zF h2,zT h3];rfl
    ·have h4:(6:Int)<b:=by omega
     rw[zF h1,zF h2,zF h3,zT h4];rfl
theorem xA(s:ByteArray)(i:Nat):zn (ze s i):=by rw[lW];exact L3 (λx hx=>ii hx) i
theorem Ue:∀b:Fin 256,pr (b.1:Int)=some (decide (De (b.1:Int)≠some 0)):=by decide+kernel
theorem zgd:∀b:Fin 256,De (b.1:Int)=some 0\/(De (b.1:Int)=some 1/\decide (aU .and .i64 (b.1:Int) 31=31)=false)\/(De (b.1:Int)=some 2/\decide (aU .and .i64 (b.1:Int) 31=31)=true):=by decide+kernel
theorem aq9(x y:Nat)(hx:x<256)(hy:y<256):aU .and .i64 (((x:Int)*256)+(y:Int)) 255=(y:Int):=by
 have:((x:Int)*256+(y:Int))=((x*256+y:Nat):Int):=by omega
 rw[this,show(255:Int)=((255:Nat):Int) from rfl,aph (by omega) (by omega)];congr 1;rw[show(255:Nat)=2^8-1 from rfl,Nat.and_two_pow_sub_one_eq_mod];omega
theorem acO(x y:Nat)(hx:x<256)(hy:y<256):zal ((x:Int)*256+(y:Int)) (2^min ((8:Int)).toNat 64)=(x:Int):=by
 have:((x:Int)*256+(y:Int))=((x*256+y:Nat):Int):=by omega
 rw[this,show(8:Int)=((8:Nat):Int) from rfl,Zo _ 8 (by omega)];congr 1;omega
theorem aiW(x:Fin 256)(hx:De (x.1:Int)=some 2)(y:Fin 256):vP ((x.1:Int)*256+(y.1:Int))=some (decide (1<=(y.1:Int)/\(y.1:Int)<=127)):=by
 have hx0:x.1≠0:=λe=>by have:x=0:=Fin.ext e;subst this;revert hx;decide+kernel
 have Gd:decide (aU .and .i64 (x.1:Int) 31=31)=true:=by
  rcases zgd x with h|⟨h,_⟩|⟨_,h⟩
  ·rw[h] at hx;cases hx
  ·rw[h] at hx;cases hx
  ·exact h
 have hf:pr (x.1:Int)=some true:=by rw[Ue x,hx];rfl
 unfold vP zrr;rw[acO x.1 y.1 x.2 y.2,aq9 x.1 y.1 x.2 y.2,zF (by have:=x.2;have:=y.2;omega),zD,zT (by have:=x.2;have:=y.2;omega),zC,hf,ir,zC,Gd,zC];by_cases h1:(1:Int)<=(y.1:Int)
 ·rw[zT h1,zC];congr 1;exact decide_eq_decide.2 ⟨λh=>⟨h1,h⟩,λh=>h.2⟩
 ·rw[zF h1,zD];congr 1;exact(zF λh=>h1 h.1).symm
theorem ajb(s:ByteArray)(hs:s.size<=9223372036854775000)(a:Int):vO s a=Df s a:=by
 unfold vO zrq Df zkm;by_cases h1:a<0
 ·rw[zT h1];rfl
 rw[zF h1,zD,zD];by_cases h2:(s.size:Int)<a
 ·rw[zT h2];rfl
 rw[zF h2,zD,zD];by_cases h3:a=(s.size:Int)
 ·rw[zT h3];rfl
 have wa:∀{R:Type} (x:Option R),zd a s.size x=x:=λx=>zl (by omega) (by omega);rw[zF h3,zD,zD];simp only[wa];obtain⟨x,hx⟩:=nb (xA s a.toNat);obtain⟨y,hy⟩:=nb (xA s (zW zI (a+1)).toNat);have sB:=x.2;have hy2:=y.2;have ob:=zwd (xA s a.toNat) (xA s (zW zI (a+1)).toNat);rw[hx,hy] at ob;have w1:zW zI (a+1)=a+1:=zi (by omega) (by omega);have w2:zW zI (x.1:Int)=(x.1:Int):=zi (by omega) (by omega);have w3:zW zI (y.1:Int)=(y.1:Int):=zi (by omega) (by omega);have w4:zW zI ((s.size:Int)-a)=(s.size:Int)-a:=zi (by omega) (by omega);rw[hx,hy,w2,Ue x,ir];rw[w2] at ob;rcases zgd x with h|⟨h,Gd⟩|⟨h,Gd⟩
 ·rw[h];rfl
 ·rw[h,ir,Gd];rfl
 ·rw[h,ir,Gd,ob,aiW x h y,ir,w1,w4,w3];by_cases h4:a+1=(s.size:Int)
  ·rw[zT h4,zT (by omega:(s.size:Int)-a<2)];rfl
  ·have w5:zW zI (256*(x.1:Int))=256*(x.1:Int):=zi (by omega) (by omega);have w6:zW zI (256*(x.1:Int)+(y.1:Int))=(x.1:Int)*256+(y.1:Int):=by rw[zi (by omega) (by omega)];omega
   rw[zF h4,zF (by omega:¬(s.size:Int)-a<2),w5,w6];have wb:∀{R:Type} (x:Option R),zd (a+1) s.size x=x:=λx=>zl (by omega) (by omega);simp only[wb];by_cases h5:(y.1:Int)=0
   ·rw[zT h5,zF (by omega:¬(1<=(y.1:Int)/\(y.1:Int)<=127))];rfl
   ·by_cases h6:(127:Int)<(y.1:Int)
    ·rw[zF h5,zT h6,zF (by omega:¬(1<=(y.1:Int)/\(y.1:Int)<=127))];rfl
    ·rw[zF h5,zF h6,zT (by omega:1<=(y.1:Int)/\(y.1:Int)<=127)];rfl
def cL(b:Int):Int:=if 48<=b/\b<=57 then b-48 else if 65<=b/\b<=70 then b-55 else-1
def iY(d:Int):Int:=if d<10 then 48+d else 55+d
def fw:List Int->List Int
 | []=>[]
 |x::r=>iY (x/16)::iY (x % 16)::fw r
def fN:List Int->List Int
 |a::b::r=>(16*cL a+cL b)::fN r
 |_=>[]
def io:List Int->Int->Option Int
 | [],_=>none
 |a::r,i=>if cL a<0 then some i else io r (i+1)
def mH(s:ByteArray):ByteArray×Int×Bool:=match io (bl s) 0 with
 |some i=>(bs [],i,false)
 |none=>if s.size % 2=1 then(bs [],(s.size:Int),false) else(strOf (fN (bl s)),0,true)
def z40(s:ByteArray):ByteArray:=strOf (fw (bl s))
abbrev O5:ByteArray:=bs [48,49,50,51,52,53,54,55,56,57,65,66,67,68,69,70]
theorem ard:∀b:Fin 256,vq (b.1:Int)=some (if cL (b.1:Int)<0 then((0:Int),false) else(cL (b.1:Int),true)):=by decide+kernel
theorem arq:∀b:Fin 256,F2 (b.1:Int)=some (cL (b.1:Int)):=by decide+kernel
theorem amx:∀b:Fin 256,cL (b.1:Int)<16/\(cL (b.1:Int)<0\/0<=cL (b.1:Int)):=by decide+kernel
theorem uN:∀b:Fin 256,zal (b.1:Int) (2^min ((4:Int)).toNat 8)=((b.1/16:Nat):Int)/\aU .and .u8 (b.1:Int) (15:Int)=((b.1 % 16:Nat):Int)/\zW zU (zaf (b.1:Int) (16:Int))=((b.1/16:Nat):Int)/\zaN (b.1:Int) (16:Int)=((b.1 % 16:Nat):Int):=by decide+kernel
theorem Xy:∀d:Fin 16,ze O5 d.1=iY (d.1:Int):=by decide+kernel
theorem amw:∀a b:Fin 16,zW zU (aU .or .i64 (zW zI ((a.1:Int)*2^min ((4:Int)).toNat 64)) (b.1:Int))=16*(a.1:Int)+(b.1:Int)/\zW zU (zW zI (zW zI ((16:Int)*(a.1:Int))+(b.1:Int)))=16*(a.1:Int)+(b.1:Int):=by decide+kernel
theorem Rg{x y:Int}(h1:0<=x)(h2:x<16)(h3:0<=y)(h4:y<16):zW zU (aU .or .i64 (zW zI (x*2^min ((4:Int)).toNat 64)) y)=16*x+y/\zW zU (zW zI (zW zI ((16:Int)*x)+y))=16*x+y:=by have:=amw ⟨x.toNat,by omega⟩ ⟨y.toNat,by omega⟩;simpa [zaG h1,zaG h3] using this
theorem zfd{b:Int}(h:zn b):cL b<16:=by obtain⟨k,rfl⟩:=nb h;exact(amx k).1
theorem z218{b:Int}(h:zn b):vq b=some (if cL b<0 then((0:Int),false) else(cL b,true)):=by obtain⟨k,rfl⟩:=nb h;exact ard k
theorem zwr{b:Int}(h:zn b):F2 b=some (cL b):=by obtain⟨k,rfl⟩:=nb h;exact arq k
theorem zfn:O5.size=16:=by decide
theorem R6{b:Int}(h:zn b):∃k:Fin 256,b=(k.1:Int)/\ze O5 (b.toNat/16)=iY (b/16)/\ze O5 (b.toNat % 16)=iY (b % 16):=by obtain⟨k,rfl⟩:=nb h;have h1:=Xy ⟨k.1/16,by omega⟩;have h2:=Xy ⟨k.1 % 16,by omega⟩;exact⟨k,rfl,by simpa using h1,by simpa using h2⟩
theorem ui{s:ByteArray}{j:Nat}(h:j<(bl s).length):ze s j=(bl s)[j]:=by rw[lW,be,ks h];rfl
theorem zth(s:ByteArray)(hs:s.size<=1099511627776):∀(n j k:Nat) (o:List Int),j+n=s.size->n<k->o.length+2*n<=35184372088832->Mt k s o (j:Int)=some (o++fw ((bl s).drop j))
 |n,j,0,o,_,hk,_=>by omega
 |0,j,k+1,o,hj,hk,_=>by unfold Mt Z2;rw[zF (by omega),zD,GA (by rw[zf];omega),fw,zay]
 |n+1,j,k+1,o,hj,hk,ho=>by
  have ap:j<s.size:=by omega
  have hl:j<(bl s).length:=by rw[zf];exact ap
  obtain⟨b,hb,n1,n2⟩:=R6 (ii (zan hl));have lH:=b.2;unfold Mt Z2;rw[zT (by omega),zC];simp only[ba,ui hl,hb,(uN b).1,(uN b).2.1];rw[zh ap,zh (by rw[zfn];omega),zh ap,zh (by rw[zfn];omega),zT (by simp only[ls,zav];omega),zC];rw[hb] at n1 n2;simp only[ba] at n1 n2;rw[n1,n2,zq (by omega),zth s hs n (j+1) k _ (by omega) (by omega) (by rw[th];simp only[ls,zav];omega),AT hl,hb,fw,MM];rfl
theorem S0(s:ByteArray)(hs:s.size<=1099511627776):kI s=some (z40 s):=by unfold kI zpp;rw[zi (by omega) (by omega),zT (by omega),zC,zT (by omega),zC];have:=zth s hs s.size 0 af [] (by omega) (by rw[zo];omega) (by simp;omega);rw[show((0:Nat):Int)=0 from rfl,GS,zah] at this;dsimp only;rw[this];rfl
theorem Td(s:ByteArray)(hs:s.size<=1099511627776):∀(n j k:Nat) (o:List Int),j+n=s.size->n<k->o.length+2*n<=35184372088832->MZ k s o (j:Int)=some (o++fw ((bl s).drop j))
 |n,j,0,o,_,hk,_=>by omega
 |0,j,k+1,o,hj,hk,_=>by unfold MZ zkb;rw[zF (by omega),zD,GA (by rw[zf];omega),fw,zay]
 |n+1,j,k+1,o,hj,hk,ho=>by
  have ap:j<s.size:=by omega
  have hl:j<(bl s).length:=by rw[zf];exact ap
  obtain⟨b,hb,n1,n2⟩:=R6 (ii (zan hl));have lH:=b.2;have hD:Nh=some O5:=rfl;unfold MZ zkb;rw[zT (by omega),zC];simp only[hD,zc,ba,ui hl,hb,(uN b).2.2.1,(uN b).2.2.2];rw[zh ap,zh (by rw[zfn];omega),zh ap,zh (by rw[zfn];omega),zT (by simp only[ls,zav];omega),zC];rw[hb] at n1 n2;simp only[ba] at n1 n2;rw[n1,n2,zq (by omega),Td s hs n (j+1) k _ (by omega) (by omega) (by rw[th];simp only[ls,zav];omega),AT hl,hb,fw,MM];rfl
theorem Vc(s:ByteArray)(hs:s.size<=1099511627776):yM s=some (z40 s):=by unfold yM Bg;have:=Td s hs s.size 0 af [] (by omega) (by rw[zo];omega) (by simp;omega);rw[show((0:Nat):Int)=0 from rfl,GS,zah] at this;dsimp only;rw[this];rfl
def lP:List Int->Nat->List Int->Int->Sum Int (List Int)
 | [],_,o,_=> .inr o
 |a::r,i,o,high=>if cL a<0 then .inl i else if i % 2=0 then lP r (i+1) o (cL a) else lP r (i+1) (o++ [16*high+cL a]) high
theorem Xp:∀(l:List Int) (i:Nat) (o:List Int) (high:Int),i % 2=0->lP l i o high=(match io l i with
 |some q=> .inl q
 |none=> .inr (o++fN l))
 | [],i,o,high,h=>by simp [lP,io,fN]
 | [a],i,o,high,h=>by
   rw[lP,io];by_cases ha:cL a<0
   ·rw[if_pos ha,if_pos ha]
   ·rw[if_neg ha,if_neg ha,if_pos h];simp [lP,io,fN]
 |a::b::r,i,o,high,h=>by
  rw[lP,io];by_cases ha:cL a<0
  ·rw[if_pos ha,if_pos ha]
  ·rw[if_neg ha,if_neg ha,if_pos h,lP,io];by_cases hb:cL b<0
   ·rw[if_pos hb,if_pos hb];rfl
   ·rw[if_neg hb,if_neg hb,if_neg (by omega),Xp r (i+1+1) _ _ (by omega),fN,MM];have:((i:Int)+1+1)=((i+1+1:Nat):Int):=by omega
    rw[this];rfl
theorem yj(j:Nat):zaN (j:Int) (2:Int)=((j % 2:Nat):Int):=rfl
theorem zcm(s:ByteArray)(hs:s.size<=1099511627776):∀(n j k:Nat) (o:List Int) (high:Int),j+n=s.size->n<k->o.length+n<=35184372088832->0<=high/\high<16->∃o',Ms k s o high (j:Int)=some (match lP ((bl s).drop j) j o high with
 | .inl i=> .inl (s,bs [],i,false,o')
 | .inr r=> .inr (s,r))
 |n,j,0,o,high,_,hk,_,_=>by omega
 |0,j,k+1,o,high,hj,hk,_,_=>by unfold Ms Z1;rw[zF (by omega),zD,GA (by rw[zf];omega)];exact⟨o,rfl⟩
 |n+1,j,k+1,o,high,hj,hk,ho,hh=>by
  have ap:j<s.size:=by omega
  have hl:j<(bl s).length:=by rw[zf];exact ap
  have hb:=ii (zan hl);have h16:=zfd hb;unfold Ms Z1;rw[zT (by omega),zC,zh ap,ba,ui hl,z218 hb,zc,AT hl,lP];by_cases ha:cL (bl s)[j]<0
  ·rw[if_pos ha,if_pos ha];exact⟨o,rfl⟩
  ·rw[if_neg ha,if_neg ha];dsimp only;rw[ab,zD,yj];by_cases hp:j % 2=0
   ·rw[if_pos hp,zT (by omega),zC,zq (by omega)];exact zcm s hs n (j+1) k o _ (by omega) (by omega) (by omega) (by omega)
   ·rw[if_neg hp,zF (by omega),zD,zT (by simp only[By];omega),zC,zq (by omega),(Rg hh.1 hh.2 (by omega) h16).1];exact zcm s hs n (j+1) k _ high (by omega) (by omega) (by rw[th,By];omega) hh
theorem SZ(s:ByteArray)(hs:s.size<=1099511627776):il s=some (mH s):=by
 unfold il zpm mH;have e:zaf (s.size:Int) 2=((s.size/2:Nat):Int):=rfl;rw[e,zi (by omega) (by omega),zT (by omega),zC,zT (by omega),zC];obtain⟨o',h⟩:=zcm s hs s.size 0 af [] 0 (by omega) (by rw[zo];omega) (by simp;omega) (by omega);rw[show((0:Nat):Int)=0 from rfl,GS,Xp _ 0 _ _ rfl,zah,show((0:Nat):Int)=0 from rfl] at h;dsimp only;rw[h,zc];cases io (bl s) 0 with
 |some i=>rfl
 |none=>
  dsimp only;rw[zaA];unfold zpn;dsimp only;rw[yj];by_cases hp:s.size % 2=1
  ·rw[if_pos hp,zF (by omega)];rfl
  ·rw[if_neg hp,zT (by omega)];rfl
theorem SD(s:ByteArray)(hs:s.size<=1099511627776):∀(n j k:Nat),j+n=s.size->n<k->MX k s (j:Int)=some (match io ((bl s).drop j) j with
 |some i=> .inl (s,bs [],i,false)
 |none=> .inr s)
 |n,j,0,_,hk=>by omega
 |0,j,k+1,hj,hk=>by unfold MX zk9;rw[zF (by omega),zD,GA (by rw[zf];omega)];rfl
 |n+1,j,k+1,hj,hk=>by
  have ap:j<s.size:=by omega
  have hl:j<(bl s).length:=by rw[zf];exact ap
  have hb:=ii (zan hl);unfold MX zk9;rw[zT (by omega),zC,zh ap,ba,ui hl,zwr hb,zc,AT hl,io];by_cases ha:cL (bl s)[j]<0
  ·rw[if_pos ha,zT ha];rfl
  ·rw[if_neg ha,zF ha,zD];dsimp only;rw[zq (by omega)];exact SD s hs n (j+1) k (by omega) (by omega)
theorem TD{l:List Int}:∀{i:Int},io l i=none->∀a∈l,0<=cL a:=by
 induction l with
 |nil=>intro i _ a ha;cases ha
 |cons b r ih=>
  intro i h a ha;rw[io] at h;by_cases hb:cL b<0
  ·rw[if_pos hb] at h;cases h
  ·rw[if_neg hb] at h;rcases If.1 ha with rfl|ha
   ·omega
   ·exact ih h a ha
theorem SW(s:ByteArray)(hs:s.size<=1099511627776)(hev:s.size % 2=0)(eM:∀a∈bl s,0<=cL a):∀(n j k:Nat) (o:List Int),j+2*n=s.size->n<k->o.length+n<=35184372088832->MY k s o (j:Int)=some (o++fN ((bl s).drop j))
 |n,j,0,o,_,hk,_=>by omega
 |0,j,k+1,o,hj,hk,_=>by unfold MY zka;rw[zF (by omega),zD,GA (by rw[zf];omega),fN,zay];exact λ_ _ _ h=>by cases h
 |n+1,j,k+1,o,hj,hk,ho=>by
  have ap:j<s.size:=by omega
  have pK:j+1<s.size:=by omega
  have hl:j<(bl s).length:=by rw[zf];exact ap
  have pJ:j+1<(bl s).length:=by rw[zf];exact pK
  have m1:=zan hl;have m2:=zan pJ;unfold MY zka;rw[zT (by omega),zC,zh ap,ba,ui hl,zwr (ii m1),zc,zq (by omega),zh pK,ba,ui pJ,zwr (ii m2),zc];rw[(Rg (eM _ m1) (zfd (ii m1)) (eM _ m2) (zfd (ii m2))).2,zT (by simp only[By];omega),zC];have e:zW zI ((j:Int)+2)=((j+2:Nat):Int):=by rw[zi (by omega) (by omega)];omega
  rw[e];dsimp only;rw[SW s hs hev eM n (j+2) k _ (by omega) (by omega) (by rw[th,By];omega),AT hl,AT pJ,fN,MM];rfl
theorem Va(s:ByteArray)(hs:s.size<=1099511627776):C9 s=some (mH s):=by
 unfold C9 Be mH;have h:=SD s hs s.size 0 af (by omega) (by rw[zo];omega);rw[show((0:Nat):Int)=0 from rfl,GS] at h;dsimp only;rw[h,zc];cases hb:io (bl s) 0 with
 |some i=>rfl
 |none=>
  dsimp only;rw[zaA];unfold z107;rw[yj];by_cases hp:s.size % 2=1
  ·rw[if_pos hp,zT (by omega)];rfl
  ·rw[if_neg hp,zF (by omega),zD];have:=SW s hs (by omega) (TD hb) (s.size/2) 0 af [] (by omega) (by rw[zo];omega) (by simp;omega);rw[show((0:Nat):Int)=0 from rfl,GS,zah] at this;dsimp only;rw[this];rfl
theorem amz:∀d:Fin 16,cL (iY (d.1:Int))=(d.1:Int)/\zn (iY (d.1:Int)):=by
 have:∀d:Fin 16,cL (iY (d.1:Int))=(d.1:Int)/\0<=iY (d.1:Int)/\iY (d.1:Int)<256:=by decide+kernel
 exact this
theorem Xu{d:Int}(h:0<=d)(h2:d<16):cL (iY d)=d/\zn (iY d):=by have:=amz ⟨d.toNat,by omega⟩;simpa [zaG h] using this
theorem Ul:∀{l:List Int},(∀x∈l,zn x)->∀y∈fw l,zn y
 | [],_,y,hy=>by cases hy
 |x::r,h,y,hy=>by
  have hx:=h x IS;unfold zn at hx;rw[fw] at hy;rcases If.1 hy with rfl|hy
  ·exact(Xu (by omega) (by omega)).2
  ·rcases If.1 hy with rfl|hy
   ·exact(Xu (by omega) (by omega)).2
   ·exact Ul (λz hz=>h z (Cs _ hz)) y hy
theorem VN:∀l:List Int,(fw l).length=2*l.length
 | []=>rfl
 |x::r=>by rw[fw,ls,ls,VN r,ls];omega
theorem air(s:ByteArray):bl (z40 s)=fw (bl s):=ue (Ul λx hx=>ii hx)
theorem zcn(s:ByteArray):(z40 s).size=2*s.size:=by rw[<-zf,air,VN,zf]
theorem amy:∀b:Fin 256,0<=cL (b.1:Int)->iY (cL (b.1:Int))=(b.1:Int):=by decide+kernel
theorem Uk{b:Int}(h:zn b)(h0:0<=cL b):iY (cL b)=b:=by obtain⟨k,rfl⟩:=nb h;exact amy k h0
theorem EE:∀{l:List Int},l.length % 2=0->(∀x∈l,zn x/\0<=cL x)->fw (fN l)=l/\∀y∈fN l,zn y
 | [],_,_=>⟨by simp [fw,fN],λy hy=>by simp [fN] at hy⟩
 | [a],h,_=>by simp at h
 |a::b::r,h,hx=>by
  obtain⟨a1,a2⟩:=hx a (by simp);obtain⟨b1,b2⟩:=hx b (by simp);have a3:=zfd a1;have b3:=zfd b1;obtain⟨i1,i2⟩:=EE (l:=r) (by simp only[ls] at h;omega) λy hy=>hx y (by simp [hy]);rw[fN,fw];refine⟨?_,λy hy=> ?_⟩
  ·rw[show(16*cL a+cL b)/16=cL a by omega,show(16*cL a+cL b)% 16=cL b by omega,Uk a1 a2,Uk b1 b2,i1]
  ·rcases If.1 hy with rfl|hy
   ·unfold zn;omega
   ·exact i2 y hy
theorem zlx{s t:ByteArray}{i:Int}(h:mH s=(t,i,true)):z40 t=s/\s.size=2*t.size:=by
 unfold mH at h;cases hb:io (bl s) 0 with
 |some q=>rw[hb] at h;cases h
 |none=>
  rw[hb] at h;dsimp only at h;by_cases hp:s.size % 2=1
  ·rw[if_pos hp] at h;cases h
  ·rw[if_neg hp] at h;have ht:t=strOf (fN (bl s)):=(congrArg Prod.fst h).symm;obtain⟨e1,e2⟩:=EE (l:=bl s) (by rw[zf];omega) λx hx=>⟨ii hx,TD hb x hx⟩
   have e3:z40 t=s:=by unfold z40;rw[ht,ue e2,e1,Cq]
   exact⟨e3,by rw[<-e3,zcn]⟩
def cD(b:Int):Bool:=decide (48<=b/\b<=57)
def bE(l:List Int):Bool:=l.all cD
theorem zku(b:Int)(l:List Int):bE (b::l)=(cD b&&bE l):=rfl
theorem apI{b:Int}(h:48<=b/\b<=57):cD b=true:=zT h
theorem Kc{b:Int}(h:¬(48<=b/\b<=57)):cD b=false:=zF h
theorem zl5{s:ByteArray}{j:Nat}(h:j<s.size):(bl s).getD j 0=((s[j]'h).toNat:Int):=by rw[<-lW];unfold ze;rw[dif_pos h]
theorem zsk{s:ByteArray}{j:Nat}(h:j<s.size):(bl s).drop j=((s[j]'h).toNat:Int)::(bl s).drop (j+1):=by
 have h':j<(bl s).length:=by rw[zf];exact h
 rw[AT h'];congr 1;have:=zl5 h;rw[be,ks h'] at this;exact this
theorem ad6(s:ByteArray)(pos:Nat)(h:pos<s.size)(ha:128<=(s[pos]'h).toNat):128<=(zbQ s pos).1:=by
 have e:s.get! (pos+0)=s[pos]'h:=by show s.get! pos=_;simp [ByteArray.get!,getElem!_pos,h];rfl
 unfold zbQ;simp only[e];rw[if_neg (by omega)];have hre:128<=Utf8.runeError:=by unfold Utf8.runeError;omega
 split
 ·split
  ·assumption
  ·exact hre
 ·split
  ·split
   ·rename_i hc;simp only[nd,decide_eq_true_eq] at hc;have:=hc.1;simp only;omega
   ·exact hre
  ·split
   ·split
    ·rename_i hc;simp only[nd,decide_eq_true_eq] at hc;have:=hc.1;simp only;omega
    ·exact hre
   ·exact hre
theorem Vi(s:ByteArray):∀(n j k:Nat),s.size-j<=n->j<=s.size->n<k->OB k (s,j)=some (bif bE ((bl s).drop j) then .inr () else .inl false)
 |n,j,0,_,_,hk=>by omega
 |n,j,k+1,hn,hj,hk=>by
  unfold OB zyj;dsimp only;by_cases ap:j<s.size
  ·rw[zT ap,zC,zsk ap,zku];by_cases h1:(s[j]'ap).toNat<128
   ·rw[decode_ascii s j ap h1];dsimp only;by_cases h2:((s[j]'ap).toNat:Int)<48
    ·rw[zT h2,zC,Kc (by omega)];rfl
    ·rw[zF h2,zD];by_cases h3:(57:Int)<((s[j]'ap).toNat:Int)
     ·rw[zT h3,zC,Kc (by omega)];rfl
     ·obtain⟨n,rfl⟩:∃n',n=n'+1:=⟨n-1,by omega⟩
      rw[zF h3,zD,apI (by omega),zbC,Vi s n (j+1) k (by omega) (by omega) (by omega)]
   ·have hd:=ad6 s j ap (by omega);rw[zF (by omega:¬((zbQ s j).1:Int)<48),zD,zT (by omega:(57:Int)<((zbQ s j).1:Int)),zC,Kc (by omega)];rfl
  ·rw[zF ap,zD,GA (by rw[zf];omega)];rfl
theorem zws(s:ByteArray)(h:s.size<=maxLen):CZ s=some (bE (bl s)):=by unfold CZ zyi;dsimp only;rw[zj] at h;rw[Vi s s.size 0 af (by omega) (by omega) (by rw[zo];omega),GS];cases bE (bl s)<;>rfl
theorem aeA(b:Int):Py b=some (cD b):=by
 unfold Py zzp cD;by_cases h:(48:Int)<=b
 ·rw[zT h,zC];congr 1;apply decide_eq_decide.2;omega
 ·rw[zF h,zD];congr 1;symm;apply zF;omega
theorem SB(s:ByteArray)(hs:s.size<=9223372036854775807):∀(n j k:Nat),s.size-j<=n->j<=s.size->n<k->OG k s (j:Int)=some (bif bE ((bl s).drop j) then .inr () else .inl false)
 |n,j,0,_,_,hk=>by omega
 |n,j,k+1,hn,hj,hk=>by
  unfold OG zzo;dsimp only;by_cases ap:j<s.size
  ·rw[zT (by omega),zC,zh ap,aeA,ba,lW,zl5 ap,zsk ap,zku];rw[ir];cases h1:cD ((s[j]'ap).toNat:Int) with
   |false=>rfl
   |true=>
    obtain⟨n,rfl⟩:∃n',n=n'+1:=⟨n-1,by omega⟩
    simp only[ab,zD,zbC];rw[zq (by omega),SB s hs n (j+1) k (by omega) (by omega) (by omega)]
  ·rw[zF (by omega),zD,GA (by rw[zf];omega)];rfl
theorem zfi(s:ByteArray)(h:s.size<=maxLen):C8 s=some (bE (bl s)):=by unfold C8 zzn;dsimp only;rw[zj] at h;have:=SB s h s.size 0 af (by omega) (by omega) (by rw[zo];omega);rw[show((0:Nat):Int)=(0:Int) from rfl] at this;rw[this,GS];cases bE (bl s)<;>rfl
def dG(l:List Int)(n:Int):Int:=l.foldl (λn b=>10*n+(b-48)) n
theorem Tn:∀(l:List Int) (n:Int) (k:Nat),bE l=true->0<=n->n<((10^k:Nat):Int)->l.length+k<=18->0<=dG l n/\dG l n<((10^(l.length+k):Nat):Int)
 | [],n,k,_,h1,h2,_=>by simpa [dG] using⟨h1,h2⟩
 |b::l,n,k,hd,h1,h2,hl=>by
  simp only[bE,zdj,nd,cD,decide_eq_true_eq] at hd;have hp:((10^(k+1):Nat):Int)=10*((10^k:Nat):Int):=by rw[zdL];omega
  have:=Tn l (10*n+(b-48)) (k+1) hd.2 (by omega) (by rw[hp];omega) (by simp at hl;omega);simp only[dG,za3,ls] at this⊢;rw[show l.length+1+k=l.length+(k+1) by omega];exact this
theorem E4{k m:Nat}(h:k<=m):10^k<=10^m:=zaI (by decide) h
theorem YQ(k:Nat):((10^(k+1):Nat):Int)=10*((10^k:Nat):Int):=by rw[zdL];omega
theorem E5:(10:Nat)^17=100000000000000000:=by decide
theorem VJ(s:ByteArray)(hs:s.size<=18)(hd:bE (bl s)=true):∀(n j k:Nat) (t:Int),s.size-j<=n->j<=s.size->n<k->0<=t->t<((10^j:Nat):Int)->OC k t (s,j)=some (dG ((bl s).drop j) t)
 |n,j,0,t,_,_,hk,_,_=>by omega
 |n,j,k+1,t,hn,hj,hk,h0,h1=>by
  unfold OC zym;dsimp only;by_cases ap:j<s.size
  ·have Rm:cD ((s[j]'ap).toNat:Int)=true:=by
    have:=OF.1 hd ((bl s).getD j 0) (by rw[be,ks (by rw[zf];exact ap)];exact zan _)
    rw[zl5 ap] at this;exact this
   simp only[cD,decide_eq_true_eq] at Rm;rw[zT ap,zC,decode_ascii s j ap (by omega),zsk ap];dsimp only;have RH:=YQ j;have w32:IntKind.i32.wrap (((s[j]'ap).toNat:Int)-48)=((s[j]'ap).toNat:Int)-48:=by simp [zcP,zb3,zb4];omega
   obtain⟨n,rfl⟩:∃n',n=n'+1:=⟨n-1,by omega⟩
   have ht:t<100000000000000000:=by have:=E4 (show j<=17 by omega);rw[E5] at this;omega
   have a1:zW zI (10*t)=10*t:=zi (by omega) (by omega);have a2:zW zI (((s[j]'ap).toNat:Int)-48)=((s[j]'ap).toNat:Int)-48:=zi (by omega) (by omega);rw[w32,a1,a2,zi (by omega) (by omega),VJ s hs hd n (j+1) k _ (by omega) (by omega) (by omega) (by omega) (by omega)];rfl
  ·rw[zF ap,zD,GA (by rw[zf];omega)];rfl
def du(l:List Int):Int×Bool:=if 1<=l.length/\l.length<=18/\bE l=true then(dG l 0,true) else(0,false)
theorem XX(s:ByteArray)(h:s.size<=maxLen):C1 s=some (du (bl s)):=by
 unfold C1 zyl du;dsimp only;rw[zf];by_cases h0:s=bs []
 ·rw[zT h0,zC,if_neg];rw[h0];intro hh;have:(bs []).size=0:=rfl;omega
 ·have hz:s.size≠0:=λe=>h0 (zg1.2 (zam (by rw[zf];exact e)));rw[zF h0,zD];by_cases h1:(18:Int)<(s.size:Int)
  ·rw[zT h1,zC,if_neg (by omega)]
  ·rw[zF h1,zD,zws s h,ir];cases hd:bE (bl s) with
   |false=>rw[if_neg (by simp)];rfl
   |true=>rw[if_pos ⟨by omega,by omega,rfl⟩];simp only[ab,zD];rw[VJ s (by omega) hd s.size 0 af 0 (by omega) (by omega) (by rw[zo];omega) (by omega) (by decide),GS,ir];rfl
theorem SU(s:ByteArray)(hs:s.size<=18)(hd:bE (bl s)=true):∀(n j k:Nat) (t:Int),s.size-j<=n->j<=s.size->n<k->0<=t->t<((10^j:Nat):Int)->OH k s t (j:Int)=some (dG ((bl s).drop j) t)
 |n,j,0,t,_,_,hk,_,_=>by omega
 |n,j,k+1,t,hn,hj,hk,h0,h1=>by
  unfold OH zzs;dsimp only;by_cases ap:j<s.size
  ·have Rm:cD ((s[j]'ap).toNat:Int)=true:=by
    have:=OF.1 hd ((bl s).getD j 0) (by rw[be,ks (by rw[zf];exact ap)];exact zan _)
    rw[zl5 ap] at this;exact this
   simp only[cD,decide_eq_true_eq] at Rm;rw[zT (by omega),zC,zh ap,ba,lW,zl5 ap,zsk ap];have RH:=YQ j;obtain⟨n,rfl⟩:∃n',n=n'+1:=⟨n-1,by omega⟩
   have ht:t<100000000000000000:=by have:=E4 (show j<=17 by omega);rw[E5] at this;omega
   have a1:zW zI (10*t)=10*t:=zi (by omega) (by omega);have a2:zW zI ((s[j]'ap).toNat:Int)=((s[j]'ap).toNat:Int):=zi (by omega) (by omega);have a3:zW zI (10*t+((s[j]'ap).toNat:Int))=10*t+((s[j]'ap).toNat:Int):=zi (by omega) (by omega);rw[a1,a2,a3,zi (by omega) (by omega),zq (by omega),SU s hs hd n (j+1) k _ (by omega) (by omega) (by omega) (by omega) (by omega)];simp only[dG,za3];congr 2;omega
  ·rw[zF (by omega),zD,GA (by rw[zf];omega)];rfl
theorem zfm(s:ByteArray)(h:s.size<=maxLen):qC s=some (du (bl s)):=by
 unfold qC zzr du;dsimp only;rw[zf];by_cases h0:(s.size:Int)<1
 ·rw[zT h0,zC,if_neg (by omega)]
 ·rw[zF h0,zD];by_cases h1:(18:Int)<(s.size:Int)
  ·rw[zT h1,zC,if_neg (by omega)]
  ·rw[zF h1,zD,zfi s h,ir];cases hd:bE (bl s) with
   |false=>rw[if_neg (by simp)];rfl
   |true=>rw[if_pos ⟨by omega,by omega,rfl⟩];simp only[ab,zD];have:=SU s (by omega) hd s.size 0 af 0 (by omega) (by omega) (by rw[zo];omega) (by omega) (by decide);rw[show((0:Nat):Int)=(0:Int) from rfl] at this;rw[this,GS,ir];rfl
def pF:Nat->Nat->List Int
 |0,_=>[]
 |w+1,n=>pF w (n/10)++ [((48+n % 10:Nat):Int)]
theorem zga:∀w n,(pF w n).length=w
 |0,_=>rfl
 |w+1,n=>by rw[pF,th,zga w];rfl
theorem Vw{l:List Int}(h:bE l=true):∀x∈l,zn x:=λx hx=>by have:=OF.1 h x hx;simp only[cD,decide_eq_true_eq] at this;unfold zn;omega
theorem z7d(a b:List Int):strOf (a++b)=strOf a++strOf b:=by apply ByteArray.ext;simp [strOf,zcC]
theorem YV(n:Nat):zaN (n:Int) 10=((n % 10:Nat):Int):=by rw[Int.tmod_eq_emod_of_nonneg (by omega)];omega
theorem YU(n:Nat):zaf (n:Int) 10=((n/10:Nat):Int):=by rw[Int.tdiv_eq_ediv_of_nonneg (by omega)];omega
theorem Vx(n:Nat):zW zU (zW zI ((48:Int)+((n % 10:Nat):Int)))=((48+n % 10:Nat):Int):=by rw[zi (by omega) (by omega),xv (by omega) (by omega)];omega
theorem Ka(n w:Nat):n/10/10^w=n/10^(w+1):=by rw[Nat.div_div_eq_div_mul,zdL,Nat.mul_comm]
theorem fR(x:Int)(tail:List Int):∀j,(so (j+1) (0:Int)++tail).set j x=so j 0++x::tail
 |0=>rfl
 |j+1=>by show(0:Int)::((so (j+1) (0:Int)++tail).set j x)=0::(so j 0++x::tail);rw[fR x tail j]
theorem Wc(nt nt2:Nat)(hnt:nt<=18):∀(j k n:Nat) (tail:List Int),nt=j+tail.length->n<=9223372036854775807->j<k->
 MS k (n:Int) nt ((j:Int)-1) nt2 (so j 0++tail)=some (((n/10^j:Nat):Int),nt,nt2,pF j n++tail)
 |j,0,n,tail,_,_,hk=>by omega
 |0,k+1,n,tail,h,hn,hk=>by unfold MS zk0;dsimp only;rw[zF (by omega),zD];simp [pF]
 |j+1,k+1,n,tail,h,hn,hk=>by
  unfold MS zk0;dsimp only;have e:(((j+1:Nat):Int)-1)=(j:Int):=by omega
  rw[e,zT (by omega:(0:Int)<=(j:Int)),zC,zh (by omega),ba,YV,YU,Vx];have hb:Nat.ble (j+1) (so (j+1) (0:Int)++tail).length=true:=Nat.ble_eq_true_of_le (by simp);rw[hb,zC,yq (by omega),zi (by omega) (by omega)];rw[fR,Wc nt nt2 hnt j k (n/10) _ (by simp;omega) (by omega) (by omega),Ka];simp [pF]
def jm(n w:Int):ByteArray×Bool:=bif decide (0<=n/\1<=w/\w<=18/\n.toNat/10^w.toNat=0) then(strOf (pF w.toNat n.toNat),true) else(bs [],false)
theorem zm9{n w:Int}(h:0<=n/\1<=w/\w<=18/\n.toNat/10^w.toNat=0):jm n w=(strOf (pF w.toNat n.toNat),true):=by unfold jm;rw[zT h];rfl
theorem CQ{n w:Int}(h:¬(0<=n/\1<=w/\w<=18/\n.toNat/10^w.toNat=0)):jm n w=(bs [],false):=by unfold jm;rw[zF h];rfl
theorem ap5(n w:Int)(hn:n<=9223372036854775807):Pj n w=some (jm n w):=by
 unfold Pj zyp;dsimp only;by_cases h1:n<0
 ·rw[zT h1,zC,CQ (by omega)]
 rw[zF h1,zD];by_cases h2:w<1
 ·rw[zT h2,zC,CQ (by omega)]
 rw[zF h2,zD];by_cases h3:(18:Int)<w
 ·rw[zT h3,zC,CQ (by omega)]
 rw[zF h3,zD,zT (rfl:w=w),zC,zT (by omega:(0:Int)<=w),zC,zT (by omega:w*1<=140737488355328),zC];obtain⟨m,rfl⟩:∃m:Nat,n=m:=⟨n.toNat,by omega⟩
 obtain⟨v,rfl⟩:∃v:Nat,w=v:=⟨w.toNat,by omega⟩
 simp only[ba];have:=Wc v v (by omega) v af m [] (by simp) (by omega) (by rw[zo];omega);simp only[zay] at this;rw[zi (by omega) (by omega),this,zc];unfold zyq;dsimp only;by_cases h4:(0:Int)<((m/10^v:Nat):Int)
 ·rw[zT h4,zC,CQ (by simp only[ba];generalize m/10^v=q at h4⊢;omega)]
 ·rw[zF h4,zD,zga,Nat.beq_refl,zC,zm9 (by simp only[ba];generalize m/10^v=q at h4⊢;omega)];simp only[ba]
theorem Tc(w:Nat)(hw:w<=18):∀(j k n i:Nat) (s:ByteArray),i+j=w->s.size=i->n<=9223372036854775807->j<k->
 MW k (n:Int) (w:Int) s (i:Int)=some (((n/10^j:Nat):Int),strOf (pF j n)++s)
 |j,0,n,i,s,_,_,_,hk=>by omega
 |0,k+1,n,i,s,h,hs,hn,hk=>by
  unfold MW zk8;dsimp only;rw[zF (by omega),zD];have:strOf (pF 0 n)++s=s:=by apply xK;rw[oH];rfl
  rw[this];simp
 |j+1,k+1,n,i,s,h,hs,hn,hk=>by unfold MW zk8;dsimp only;rw[zT (by omega:(i:Int)<(w:Int)),zC,YV,YU,Vx,lV];rw[zT (by simp only[By];omega),zC,yq (by omega),zq (by omega),Tc w hw j k (n/10) (i+1) _ (by omega) (by rw[zaU,lV];simp;omega) (by omega) (by omega),Ka,pF,z7d,zcw]
theorem Vb(n w:Int)(hn:n<=9223372036854775807):F1 n w=some (jm n w):=by
 unfold F1 Bb;dsimp only;by_cases h1:n<0
 ·rw[zT h1,zC,CQ (by omega)]
 rw[zF h1,zD];by_cases h2:w<1
 ·rw[zT h2,zC,CQ (by omega)]
 rw[zF h2,zD];by_cases h3:(18:Int)<w
 ·rw[zT h3,zC,CQ (by omega)]
 rw[zF h3,zD];obtain⟨m,rfl⟩:∃m:Nat,n=m:=⟨n.toNat,by omega⟩
 obtain⟨v,rfl⟩:∃v:Nat,w=v:=⟨w.toNat,by omega⟩
 have:=Tc v (by omega) v af m 0 (bs []) (by omega) rfl (by omega) (by rw[zo];omega);rw[show((0:Nat):Int)=(0:Int) from rfl] at this;rw[this,zc];unfold Bc;dsimp only;have e:strOf (pF v m)++bs []=strOf (pF v m):=by apply xK;rw[oH,zw2,zay]
 by_cases h4:((m/10^v:Nat):Int)=0
 ·rw[zT h4,ab,zD,zm9 (by simp only[ba];generalize m/10^v=q at h4⊢;omega),e];simp only[ba]
 ·rw[zF h4,GW,zC,CQ (by simp only[ba];generalize m/10^v=q at h4⊢;omega)]
theorem aer(l r:List Int)(n:Int):dG (l++r) n=dG r (dG l n):=by unfold dG;rw[List.foldl_append]
theorem zw6:∀(w n:Nat) (l:List Int),bE l=true->w=l.length->dG l 0=(n:Int)->pF w n=l/\n/10^w=0
 |0,n,l,hd,hw,hv=>by
  obtain rfl:=zam hw.symm;have:(0:Int)=n:=hv;obtain rfl:n=0:=by omega
  exact⟨rfl,rfl⟩
 |w+1,n,l,hd,hw,hv=>by
  have bR:l≠ []:=by intro e;subst e;simp at hw
  obtain⟨r,b,rfl⟩:∃r b,l=r++ [b]:=⟨l.dropLast,l.getLast bR,(zeu bR).symm⟩
  rw[bE,zgA,nd,zdj,List.all_nil,zcV] at hd;have hb:=hd.2;simp only[cD,decide_eq_true_eq] at hb;rw[aer] at hv;have jS:10*dG r 0+(b-48)=n:=hv;obtain⟨i1,i2⟩:=zw6 w (n/10) r hd.1 (by simpa using hw) (by omega);refine⟨?_,by rw[<-Ka];exact i2⟩;rw[pF,i1];congr 2;omega
def gl(l:List Int):Bool:=l.all λb=>decide (b=48)
theorem Zd(b:Int)(l:List Int):gl (b::l)=(decide (b=48)&&gl l):=rfl
theorem zcb(a b:List Int):gl (a++b)=(gl a&&gl b):=zgA ..
theorem SE(s:ByteArray)(x:Int)(l:List Int)(h:bl s=x::l):ze s 0=x:=by rw[lW,h];rfl
theorem Ss(k:Nat):∀(s:ByteArray),s.size<k->s.size<=9223372036854775807->∃r,Og k s 48=some r/\gl (bl r)=gl (bl s)/\(gl (bl s)=true->bl r=[])/\r.size<=s.size:=by
 induction k with
 |zero=>intro s h;omega
 |succ k ih=>
  intro s h hs;unfold Og zro;dsimp only;by_cases h0:(0:Int)<(s.size:Int)
  ·have hm:zW zI ((s.size:Int)-1)=((s.size-1:Nat):Int):=by rw[zi (by omega) (by omega)];omega
   rw[zT h0,zC,hm,zh (by omega),ba];have hl:(bl s).length=s.size:=zf s;have bR:bl s≠ []:=by intro e;rw[e] at hl;simp at hl;omega
   obtain⟨r,b,hb⟩:∃r b,bl s=r++ [b]:=⟨(bl s).dropLast,(bl s).getLast bR,(zeu bR).symm⟩
   have hr:r.length=s.size-1:=by rw[hb] at hl;simp at hl;omega
   have hx:ze s (s.size-1)=b:=by rw[lW,hb,<-hr,be];simp
   rw[hx];by_cases hz:b=48
   ·rw[zT hz,zC,zT (by omega:(0:Int)<=((s.size-1:Nat):Int)),zC,zT (by omega:((s.size-1:Nat):Int)<=((s.size:Nat):Int)),zC];have he:bl (s.extract 0 (s.size-1))=r:=by rw[xC,hb,GS,<-hr,List.take_left'];rfl
    have dd:(s.extract 0 (s.size-1)).size=s.size-1:=by rw[<-zf,he,hr]
    obtain⟨q,q1,q2,q3,q4⟩:=ih (s.extract 0 (s.size-1)) (by omega) (by omega);refine⟨q,q1,?_,λha=>q3 ?_,by omega⟩
    ·rw[q2,he,hb,zcb,Zd,zT hz];simp [gl]
    ·rw[hb,zcb,nd] at ha;rw[he];exact ha.1
   ·rw[zF hz,zD];refine⟨s,rfl,rfl,λha=> ?_,zag _⟩;rw[hb,zcb,Zd,zF hz] at ha;simp at ha
  ·rw[zF h0,zD];refine⟨s,rfl,rfl,λ_=>zam (by rw[zf];omega),zag _⟩
theorem Es{s:ByteArray}{x:Int}{l:List Int}(h:bl s=x::l):bl (s.extract 1 s.size)=l:=by rw[xC,<-zf,zaH,h];rfl
theorem Sr(k:Nat):∀(s:ByteArray),s.size<k->s.size<=9223372036854775807->∃r,Oe k s 48=some r/\((bl r=[])↔gl (bl s)=true):=by
 induction k with
 |zero=>intro s h;omega
 |succ k ih=>
  intro s h hs;unfold Oe zrk;dsimp only;have hl:(bl s).length=s.size:=zf s;by_cases h0:(0:Int)<(s.size:Int)
  ·rw[zT h0,zC,zl (by omega) h0];cases hb:bl s with
   |nil=>rw[hb] at hl;simp at hl;omega
   |cons x l=>
    rw[show((0:Int)).toNat=0 from rfl,show((1:Int)).toNat=1 from rfl,SE s x l hb];by_cases hz:x=48
    ·rw[zT hz,zC,zT (by omega:(1:Int)<=((s.size:Nat):Int)),zC];have he:=Es hb;have dd:(s.extract 1 s.size).size=s.size-1:=by rw[<-zf,he,<-hl,hb];simp
     obtain⟨q,q1,q2⟩:=ih (s.extract 1 s.size) (by omega) (by omega);refine⟨q,q1,q2.trans ?_⟩;rw[he,Zd,zT hz];simp
    ·rw[zF hz,zD];refine⟨s,rfl,?_⟩;rw[hb,Zd,zF hz];simp
  ·rw[zF h0,zD];have:bl s=[]:=zam (by omega);refine⟨s,rfl,?_⟩;rw[this];simp [gl]
theorem apf(s:ByteArray)(h:s.size<=9223372036854775807):∃r,vN s (bs [48])=some r/\(r=bs []↔gl (bl s)=true):=by
 unfold vN zrh;by_cases h0:s=bs []
 ·rw[zT h0,zC];refine⟨s,rfl,?_⟩;rw[h0];simp [zw2,gl]
 rw[zF h0,zD,zF (show¬bs [48]=bs [] from λe=>absurd (congrArg ByteArray.size e) (by decide)),zD,zT (by rfl:(((bs [48]).size:Nat):Int)=1),zC];have hb:ze (bs [48]) ((0:Int)).toNat=48:=by rw[lW];rfl
 have hw {R:Type} (x:Option R):zd (0:Int) (bs [48]).size x=x:=zl (by omega) (by decide);rw[hw,hb,zT (by decide:(48:Int)<128),zC,hw];unfold yJ zrn;dsimp only;obtain⟨r,r1,r2,r3,r4⟩:=Ss af s (by rw[zo];omega) h;rw[r1,zc];unfold zrp;rw[zc,hw];unfold yI zrj;dsimp only;obtain⟨q,q1,q2⟩:=Sr af r (by rw[zo];omega) (by omega);rw[q1,zc];unfold zrl;rw[zc];refine⟨q,rfl,?_⟩;rw[zg1,q2,r2]
theorem zma:∀(c:Nat),bl ⟨(zef (bs [48]).data.toList c).toArray⟩=so c 48
 |0=>rfl
 |c+1=>by rw[List.replicate_succ,<-zma c];simp only[bl,zef,List.map_append];rfl
def fJ(s:ByteArray)(w:Int):ByteArray×Bool:=
 bif decide (1<=s.size/\s.size<=999/\bE (bl s)=true/\1<=w/\w<=999) then
  (bif decide ((s.size:Int)<=w) then(strOf (so (w-s.size).toNat 48++bl s),true)
   else bif gl ((bl s).take (s.size-w.toNat)) then(strOf ((bl s).drop (s.size-w.toNat)),true) else(bs [],false))
 else(bs [],false)
theorem xL{s:ByteArray}{w:Int}(h:¬(1<=s.size/\s.size<=999/\bE (bl s)=true/\1<=w/\w<=999)):fJ s w=(bs [],false):=by unfold fJ;rw[zF h];rfl
theorem LP{s:ByteArray}{w:Int}(h:1<=s.size/\s.size<=999/\bE (bl s)=true/\1<=w/\w<=999):fJ s w=(bif decide ((s.size:Int)<=w) then(strOf (so (w-s.size).toNat 48++bl s),true)
 else bif gl ((bl s).take (s.size-w.toNat)) then(strOf ((bl s).drop (s.size-w.toNat)),true) else(bs [],false)):=by unfold fJ;rw[zT h];rfl
theorem ap4(s:ByteArray)(w:Int)(h:s.size<=maxLen):Ph s w=some (fJ s w):=by
 unfold Ph zyn;dsimp only;by_cases h0:s=bs []
 ·rw[zT h0,zC,xL];intro hh;rw[h0] at hh;exact absurd hh.1 (by decide)
 have hz:s.size≠0:=λe=>h0 (zg1.2 (zam (by rw[zf];exact e)));rw[zF h0,zD];by_cases h1:(999:Int)<(s.size:Int)
 ·rw[zT h1,zC,xL (by omega)]
 rw[zF h1,zD,zws s h,zc];cases hd:bE (bl s) with
 |false=>rw[xL (by rw[hd];simp)];rfl
 |true=>
  rw[ab,zD];by_cases h2:w<1
  ·rw[zT h2,zC,xL (by omega)]
  rw[zF h2,zD];by_cases h3:(999:Int)<w
  ·rw[zT h3,zC,xL (by omega)]
  rw[zF h3,zD,LP ⟨by omega,by omega,hd,by omega,by omega⟩];obtain⟨v,rfl⟩:∃v:Nat,w=v:=⟨w.toNat,by omega⟩
  by_cases h4:(s.size:Int)<=(v:Int)
  ·rw[zT h4,zC,zC];obtain⟨c,hc⟩:∃c:Nat,(v:Int)-(s.size:Int)=(c:Int):=⟨v-s.size,by omega⟩
   rw[hc,yq (by omega)];have hR:strings_Repeat (bs [48]) (c:Int)=some ⟨(zef (bs [48]).data.toList c).toArray⟩:=by unfold strings_Repeat;rw[zT (by omega:(0:Int)<=(c:Int)),zT (by omega:(c:Int)<=9223372036854775807),zT (by rw[show(((bs [48]).size:Nat):Int)=1 from rfl];omega),ba];rfl
   rw[hR,zc];have dd:((⟨(zef (bs [48]).data.toList c).toArray⟩:ByteArray)).size=c:=by rw[<-zf,zma,zbY]
   rw[dd,zT (by omega),zC,ba];congr 2;apply xK;rw[oH,zma,ue];intro x hx;rcases M2.1 hx with hx|hx
   ·rw[(zeW.1 hx).2];unfold zn;omega
   ·exact ii hx
  ·rw[zF h4,zD,zD];obtain⟨c,hc⟩:∃c:Nat,(s.size:Int)-(v:Int)=(c:Int):=⟨s.size-v,by omega⟩
   have hcv:s.size-((v:Int)).toNat=c:=by omega
   rw[hc,yq (by omega),zT (by omega:(0:Int)<=(c:Int)),zC,zT (by omega:(c:Int)<=((s.size:Nat):Int)),zC,ba,hcv];have hx:bl (s.extract 0 c)=(bl s).take c:=by rw[xC,GS]
   have tN:(s.extract 0 c).size=c:=by rw[<-zf,hx,Of,zf];omega
   obtain⟨r,r1,r2⟩:=apf (s.extract 0 c) (by omega);rw[r1,zc];rw[hx] at r2;cases ha:gl ((bl s).take c) with
   |true=>rw[zT (r2.2 ha),ab,zD,zC,zC];congr 2;apply xK;rw[xC,<-zf,zaH,ue];exact λx hx=>ii (zb1 hx)
   |false=>rw[zF (λe=>by rw[r2.1 e] at ha;cases ha),GW,zC];rfl
theorem V6(v:Nat)(hv:v<=999):∀(n k:Nat) (s:ByteArray),v-s.size<=n->n<k->s.size<=999->OI k s (v:Int)=some (strOf (so (v-s.size) 48++bl s),(v:Int))
 |n,0,s,_,hk,_=>by omega
 |n,k+1,s,hn,hk,hs=>by
  unfold OI zzw;dsimp only;by_cases h:(s.size:Int)<(v:Int)
  ·have h48:(bs [48]).size=1:=rfl;rw[zT h,zC,zT (by omega),zC];obtain⟨n,rfl⟩:∃n',n=n'+1:=⟨n-1,by omega⟩
   have dd:(bs [48]++s).size=s.size+1:=by rw[zaU];omega
   rw[V6 v hv n k _ (by omega) (by omega) (by omega),dd,oH];obtain⟨m,hm⟩:∃m,v-s.size=m+1:=⟨v-s.size-1,by omega⟩
   rw[show v-(s.size+1)=m by omega,hm,List.replicate_succ',MM];rfl
  ·rw[zF h,zD,show v-s.size=0 by omega,zgR,zah,Cq]
def QT(e:Sum vZ ByteArray):Option iH:=
 GB (λ(we:vZ)=>zzz we.1 we.2.1 we.2.2 (λa0 a1=>some (a0,a1))) (λ(we:ByteArray)=>A9 we (λa0 a1=>some (a0,a1))) e
theorem V7(v:Nat):∀(n k:Nat) (s:ByteArray),s.size-v<=n->n<k->s.size<=999->(OJ k s (v:Int)).bind QT=some (bif gl ((bl s).take (s.size-v)) then(strOf ((bl s).drop (s.size-v)),true) else(bs [],false))
 |n,0,s,_,hk,_=>by omega
 |n,k+1,s,hn,hk,hs=>by
  unfold OJ zzy;dsimp only;have hl:(bl s).length=s.size:=zf s;by_cases h:(v:Int)<(s.size:Int)
  ·rw[zT h,zC,zl (by omega) (by omega)];cases hb:bl s with
   |nil=>rw[hb] at hl;simp at hl;omega
   |cons x l=>
    have hm:s.size-v=(s.size-1-v)+1:=by omega
    rw[show((0:Int)).toNat=0 from rfl,show((1:Int)).toNat=1 from rfl,SE s x l hb,hm,List.take_succ_cons,Zd,zeK];by_cases hz:x=48
    ·rw[zT hz,ab,zD,zT (by omega:(1:Int)<=((s.size:Nat):Int)),zC,zbC];have he:=Es hb;have dd:(s.extract 1 s.size).size=s.size-1:=by rw[<-zf,he,<-hl,hb];simp
     obtain⟨n,rfl⟩:∃n',n=n'+1:=⟨n-1,by omega⟩
     rw[V7 v n k _ (by omega) (by omega) (by omega),he,dd]
    ·rw[zF hz,GW,zC,Bool.false_and];rfl
  ·rw[zF h,zD,show s.size-v=0 by omega,zbd,GS,Cq];rfl
theorem ajF(s:ByteArray)(w:Int)(h:s.size<=maxLen):Pz s w=some (fJ s w):=by
 unfold Pz zzv;dsimp only;by_cases h0:(s.size:Int)<1
 ·rw[zT h0,zC,xL (by omega)]
 rw[zF h0,zD];by_cases h1:(999:Int)<(s.size:Int)
 ·rw[zT h1,zC,xL (by omega)]
 rw[zF h1,zD,zfi s h,zc];cases hd:bE (bl s) with
 |false=>rw[xL (by rw[hd];simp)];rfl
 |true=>
  rw[ab,zD];by_cases h2:w<1
  ·rw[zT h2,zC,xL (by omega)]
  rw[zF h2,zD];by_cases h3:(999:Int)<w
  ·rw[zT h3,zC,xL (by omega)]
  rw[zF h3,zD,LP ⟨by omega,by omega,hd,by omega,by omega⟩];obtain⟨v,rfl⟩:∃v:Nat,w=v:=⟨w.toNat,by omega⟩
  rw[V6 v (by omega) 999 af s (by omega) (by rw[zo];omega) (by omega),zc];unfold zzx;dsimp only;have Gg:bl (strOf (so (v-s.size) 48++bl s))=so (v-s.size) 48++bl s:=by
   rw[ue];intro x hx;rcases M2.1 hx with hx|hx
   ·rw[(zeW.1 hx).2];unfold zn;omega
   ·exact ii hx
  have dd:(strOf (so (v-s.size) 48++bl s)).size=v-s.size+s.size:=by rw[<-zf,Gg,th,zbY,zf]
  have:=V7 v 999 af (strOf (so (v-s.size) 48++bl s)) (by omega) (by rw[zo];omega) (by omega);refine this.trans ?_;rw[dd,Gg];congr 1;by_cases h4:(s.size:Int)<=(v:Int)
  ·rw[zT h4,zC,show v-s.size+s.size-v=0 by omega,zbd,GS,show((v:Int)-(s.size:Int)).toNat=v-s.size by omega];rfl
  ·rw[zF h4,zD,show v-s.size=0 by omega,Nat.zero_add,zgR,zah,show((v:Int)).toNat=v by omega]
def dM:List Int->List Int
 |a::b::r=>(16*(a-48)+(b-48))::dM r
 |_=>[]
def oR(s:ByteArray):ByteArray×Bool:=
 bif decide (s.size<=999/\bE (bl s)=true) then(strOf (dM (if s.size % 2=1 then 48::bl s else bl s)),true) else(bs [],false)
def dC(odd:Bool):List Int->Nat->Option (Int×Int)
 | [],_=>none
 |x::r,i=>if i=0/\odd=true/\x/16≠0 then some (4,0) else if 9<x/16\/9<x % 16 then some (3,i) else dC odd r (i+1)
def dL:List Int->List Int
 | []=>[]
 |x::r=>(48+x/16)::(48+x % 16)::dL r
def kb(b:ByteArray)(n:Int):ByteArray×Int×Int:=
 if n<0\/999<n then(bs [],1,0) else if(b.size:Int)<(n+1)/2 then(bs [],2,(b.size:Int)) else
 match dC (decide (n % 2=1)) ((bl b).take ((n+1)/2).toNat) 0 with
 |some e=>(bs [],e.1,e.2)
 |none=>(strOf ((dL ((bl b).take ((n+1)/2).toNat)).drop (n % 2).toNat),0,0)
theorem al6:∀a b:Fin 10,aU .or .u8 (zW zU ((zW zU ((48+(a.1:Int))-48))*2^min ((4:Int)).toNat 8)) (zW zU ((48+(b.1:Int))-48))=16*(a.1:Int)+(b.1:Int):=by decide+kernel
theorem Xm{x:Int}(h:cD x=true):∃k:Fin 10,x=48+(k.1:Int):=by unfold cD at h;simp only[nd,decide_eq_true_eq] at h;exact⟨⟨(x-48).toNat,by omega⟩,by simp;omega⟩
theorem aaf{x y:Int}(hx:cD x=true)(hy:cD y=true):aU .or .u8 (zW zU ((zW zU (x-48))*2^min ((4:Int)).toNat 8)) (zW zU (y-48))=16*(x-48)+(y-48):=by obtain⟨a,rfl⟩:=Xm hx;obtain⟨b,rfl⟩:=Xm hy;have:=al6 a b;rw[this];omega
theorem zcc(s:ByteArray)(hs:s.size<=1099511627776)(hev:s.size % 2=0)(hd:bE (bl s)=true):∀(n j k:Nat) (o:List Int),j+2*n=s.size->n<k->o.length+n<=35184372088832->kK k s o (j:Int)=some (o++dM ((bl s).drop j))
 |n,j,0,o,_,hk,_=>by omega
 |0,j,k+1,o,hj,hk,_=>by unfold kK nC;rw[zF (by omega),zD,GA (by rw[zf];omega),dM,zay];exact λ_ _ _ h=>by cases h
 |n+1,j,k+1,o,hj,hk,ho=>by
  have ap:j<s.size:=by omega
  have pK:j+1<s.size:=by omega
  have hl:j<(bl s).length:=by rw[zf];exact ap
  have pJ:j+1<(bl s).length:=by rw[zf];exact pK
  have d1:=OF.1 hd _ (zan hl);have d2:=OF.1 hd _ (zan pJ);have e:zW zI ((j:Int)+2)=((j+2:Nat):Int):=by rw[zi (by omega) (by omega)];omega
  unfold kK nC;rw[zT (by omega),zC,zh ap,zq (by omega),zh pK,ba,ba,ui hl,ui pJ,aaf d1 d2,zT (by simp only[By];omega),zC,e];dsimp only;rw[zcc s hs hev hd n (j+2) k _ (by omega) (by omega) (by rw[th,By];omega),AT hl,AT pJ,dM,MM];rfl
theorem aag:bl (bs [48])=[48]:=by decide
theorem zl2(s:ByteArray)(hs:s.size<=maxLen):Q1 s=some (oR s):=by
 unfold Q1 lZ oR;by_cases h1:(999:Int)<(s.size:Int)
 ·rw[zT h1,zC,zF (by omega)];rfl
 ·rw[zF h1,zD,zws s hs,zc];cases hd:bE (bl s) with
  |false=>rw[zF (p:=s.size<=999/\false=true) (λh=>by cases h.2)];rfl
  |true=>
   rw[ab,zD,zT (⟨by omega,rfl⟩:s.size<=999/\true=true),zC,yj];by_cases hp:s.size % 2=1
   ·have dd:(bs [48]++s).size=s.size+1:=by rw[zaU];show 1+s.size=_;omega
    have hb:bl (bs [48]++s)=48::bl s:=by rw[oH,aag];rfl
    rw[if_pos hp,zF (by omega),GW,zC,zT (by show 1+s.size<=_;omega),zC,dd];have e:zaf ((s.size+1:Nat):Int) 2=(((s.size+1)/2:Nat):Int):=rfl;rw[e,zi (by omega) (by omega),zT (by omega),zC,zT (by omega),zC];have:=zcc (bs [48]++s) (by omega) (by omega) (by rw[hb];show(cD 48&&bE (bl s))=true;rw[hd];rfl) ((s.size+1)/2) 0 af [] (by omega) (by rw[zo];omega) (by simp;omega);rw[show((0:Nat):Int)=0 from rfl,GS,zah,hb] at this;dsimp only;rw[this];rfl
   ·rw[if_neg hp,zT (by omega),ab,zD];have e:zaf ((s.size:Nat):Int) 2=((s.size/2:Nat):Int):=rfl;rw[e,zi (by omega) (by omega),zT (by omega),zC,zT (by omega),zC];have:=zcc s (by omega) (by omega) hd (s.size/2) 0 af [] (by omega) (by rw[zo];omega) (by simp;omega);rw[show((0:Nat):Int)=0 from rfl,GS,zah] at this;dsimp only;rw[this];rfl
theorem Y6(n:Int)(h0:0<=n)(h1:n<=999):Q2 n=some ((n+1)/2):=by
 unfold Q2 qq;obtain⟨m,rfl⟩:∃m:Nat,n=m:=⟨n.toNat,by omega⟩
 by_cases h:(m:Int)<1
 ·rw[zT h,zC];congr 1;omega
 ·rw[zF h,zD,yj];have e:zaf (m:Int) 2=((m/2:Nat):Int):=rfl;have e2:zW zI ((m/2:Nat):Int)=((m/2:Nat):Int):=zi (by omega) (by omega);rw[e,e2,zi (by omega) (by omega)];congr 1;omega
theorem amM:∀d:Fin 16,d.1<=9->zW zU ((48:Int)+(d.1:Int))=48+(d.1:Int):=by decide+kernel
theorem tW{d:Nat}(h:d<=9):zW zU ((48:Int)+(d:Int))=48+(d:Int):=amM ⟨d,by omega⟩ h
theorem zsy(b:ByteArray)(hb0:b.size<=1099511627776)(nn:Nat)(hn:nn<=999)(m:Nat)(hm:m<=b.size):∀(n j k:Nat) (o:List Int),j+n=m->n<k->o.length+2*n<=35184372088832->∃o',jJ k b (nn:Int) o (m:Int) (j:Int)=some (match dC (decide (nn % 2=1)) (((bl b).take m).drop j) j with
 |some e=> .inl ((nn:Int),bs [],e.1,e.2,o')
 |none=> .inr ((nn:Int),o++dL (((bl b).take m).drop j)))
 |n,j,0,o,_,hk,_=>by omega
 |0,j,k+1,o,hj,hk,_=>by unfold jJ nr;rw[zF (by omega),zD,GA (by rw[Of,zf];omega)];exact⟨o,by simp [dC,dL]⟩
 |n+1,j,k+1,o,hj,hk,ho=>by
  have ap:j<b.size:=by omega
  have hl:j<(bl b).length:=by rw[zf];exact ap
  have Rq:j<((bl b).take m).length:=by rw[Of];omega
  obtain⟨x,hx,_,_⟩:=R6 (ii (zan hl));have sB:=x.2;have ih:=zsy b hb0 nn hn m hm n (j+1) k (o++ [48+((x.1/16:Nat):Int),48+((x.1 % 16:Nat):Int)]) (by omega) (by omega) (by rw[th];simp only[ls,zav];omega);have hw:∀{R:Type} (z:Option R),zd (j:Int) b.size z=z:=λz=>zh ap;have hJ:((bl b).take m).drop j=(x.1:Int)::((bl b).take m).drop (j+1):=by rw[AT Rq,zcM,hx]
  rw[hJ,dC,dL];unfold jJ nr;simp only[hw,ba,ui hl,hx,(uN x).1,(uN x).2.1,yj];rw[zT (by omega:(j:Int)<(m:Int)),zC];have QR:(x.1:Int)/16=((x.1/16:Nat):Int):=by omega
  have QS:(x.1:Int)% 16=((x.1 % 16:Nat):Int):=by omega
  rw[QR,QS];have plain:∀(Z:Option (Sum (Int×ByteArray×Int×Int×List Int) (Int×List Int))),Z=(bif decide ((9:Int)<((x.1/16:Nat):Int)) then some (.inl ((nn:Int),bs [],(3:Int),(j:Int),o)) else bif decide ((9:Int)<((x.1 % 16:Nat):Int)) then some (.inl ((nn:Int),bs [],(3:Int),(j:Int),o)) else(bif decide ((o.length+(aa ([zW zU (48+((x.1/16:Nat):Int)),zW zU (48+((x.1 % 16:Nat):Int))]:List Int)))*1<=140737488355328) then jJ k b (nn:Int) (o++ [zW zU (48+((x.1/16:Nat):Int)),zW zU (48+((x.1 % 16:Nat):Int))]) (m:Int) (zW zI ((j:Int)+1)) else none))->
   ∃o',Z=some (match(if 9<((x.1/16:Nat):Int)\/9<((x.1 % 16:Nat):Int) then some ((3:Int),(j:Int)) else dC (decide (nn % 2=1)) (((bl b).take m).drop (j+1)) (j+1)) with
    |some e=> .inl ((nn:Int),bs [],e.1,e.2,o')
    |none=> .inr ((nn:Int),o++(48+((x.1/16:Nat):Int))::(48+((x.1 % 16:Nat):Int))::dL (((bl b).take m).drop (j+1)))):=λZ hZ=>by
   rw[hZ];by_cases c1:(9:Int)<((x.1/16:Nat):Int)
   ·rw[zT c1,if_pos (.inl c1)];exact⟨o,rfl⟩
   ·by_cases c2:(9:Int)<((x.1 % 16:Nat):Int)
    ·rw[zF c1,zD,zT c2,if_pos (.inr c2)];exact⟨o,rfl⟩
    ·rw[zF c1,zD,zF c2,zD,if_neg (λh=>h.elim c1 c2),tW (by omega),tW (by omega),zT (by simp only[ls,zav];omega),zC,zq (by omega)];obtain⟨o',h⟩:=ih;refine⟨o',h.trans ?_⟩;rw[MM];rfl
  by_cases j0:j=0
  ·subst j0;rw[zT (by omega:((0:Nat):Int)=0),zC];by_cases hp:nn % 2=1
   ·rw[zT hp,zF (by omega:¬((nn % 2:Nat):Int)=0),GW,zC];by_cases hz:x.1/16=0
    ·rw[if_neg (by omega),zT (by omega),ab,zD];have:=plain _ rfl;rw[zT hp] at this;exact this
    ·rw[if_pos (by simp;omega),zF (by omega),GW,zC];exact⟨o,rfl⟩
   ·rw[zF hp,zT (by omega:((nn % 2:Nat):Int)=0),ab,zD,if_neg (by simp)];have:=plain _ rfl;rw[zF hp] at this;exact this
  ·rw[zF (by omega:¬(j:Int)=0),zD,if_neg (by omega)];exact plain _ rfl
theorem zl1(b:ByteArray)(n:Int)(hb:b.size<=1099511627776):Q0 b n=some (kb b n):=by
 unfold Q0 qb kb;by_cases h0:n<0
 ·rw[zT h0,if_pos (.inl h0)];rfl
 ·rw[zF h0,zD];by_cases h1:999<n
  ·rw[zT h1,if_pos (.inr h1)];rfl
  ·rw[zF h1,zD,if_neg (λh=>h.elim h0 h1),Y6 n (by omega) (by omega),zc];by_cases h2:(b.size:Int)<(n+1)/2
   ·rw[zT h2,if_pos h2];rfl
   ·rw[zF h2,zD,if_neg h2,zi (by omega) (by omega),zT (by omega),zC,zT (by omega),zC,zc];obtain⟨nn,rfl⟩:∃nn:Nat,n=nn:=⟨n.toNat,by omega⟩
    have em:((nn:Int)+1)/2=(((nn+1)/2:Nat):Int):=by omega
    have ep:((nn:Int)% 2).toNat=nn % 2:=by omega
    have eo:decide ((nn:Int)% 2=1)=decide (nn % 2=1):=decide_eq_decide.2 (by omega);rw[em,ba,eo,ep];obtain⟨o',h⟩:=zsy b hb nn (by omega) ((nn+1)/2) (by omega) ((nn+1)/2) 0 af [] (by omega) (by rw[zo];omega) (by simp;omega);rw[show((0:Nat):Int)=0 from rfl,GS,zah] at h;dsimp only;rw[h,zc];cases dC (decide (nn % 2=1)) ((bl b).take ((nn+1)/2)) 0 with
    |some e=>rfl
    |none=>
     dsimp only;rw[zaA];unfold qc;dsimp only;rw[yj,zT (by omega),zC];have hlen:∀l:List Int,(dL l).length=2*l.length:=λl=>by
      induction l with
      |nil=>rfl
      |cons x r ih=>rw[dL,ls,ls,ih,ls];omega
     rw[zT (by rw[hlen,Of,zf];omega),zC,ba,zaH]
theorem F9(j:Nat):zaf (j:Int) (2:Int)=((j/2:Nat):Int):=rfl
theorem ae5(b:ByteArray)(hb:b.size<=1099511627776)(m:Nat)(hm:m<=b.size)(EJ:m<=500)(K:Nat)(t:ByteArray)(ht:t.size<=1000){j:Nat}(hj:j<m)(x:Fin 256)(hx:ze b j=(x.1:Int)):
 p5 (K+1) b (m:Int) t ((2*j:Nat):Int)=(if 9<x.1/16 then some (.inl (bs [],(3:Int),(j:Int),t)) else p5 K b (m:Int) (t++strOf [48+((x.1/16:Nat):Int)]) ((2*j+1:Nat):Int)):=by
 have sB:=x.2;have e1:zW zI ((2:Int)*(m:Int))=((2*m:Nat):Int):=by rw[zi (by omega) (by omega)];omega
 have e2:zW zI (((2*j)/2:Nat):Int)=(j:Int):=by rw[zi (by omega) (by omega)];omega
 conv=>lhs;unfold p5 M0
 simp only[e1,F9,e2,yj,ba,hx,(uN x).2.2.1,(uN x).2.2.2];have hw:∀{R:Type} (z:Option R),zd (j:Int) b.size z=z:=λz=>zh (by omega);simp only[hw];rw[zT (by omega),zC,zF (by omega:¬((2*j:Nat):Int)=1),zD,zF (by omega:¬(((2*j)% 2:Nat):Int)=1),zD];by_cases h:9<x.1/16
 ·rw[if_pos h,zT (by omega)];rfl
 ·rw[if_neg h,zF (by omega),zD,tW (by omega),zT (by rw[lV];simp only[By];omega),zC,zq (by omega)]
theorem ain(b:ByteArray)(hb:b.size<=1099511627776)(m:Nat)(hm:m<=b.size)(EJ:m<=500)(K:Nat)(t:ByteArray)(ht:t.size<=1000){j:Nat}(hj:j<m)(x:Fin 256)(hx:ze b j=(x.1:Int))(bR:¬(j=0/\t=bs [])):
 p5 (K+1) b (m:Int) t ((2*j+1:Nat):Int)=(if 9<x.1 % 16 then some (.inl (bs [],(3:Int),(j:Int),t)) else p5 K b (m:Int) (t++strOf [48+((x.1 % 16:Nat):Int)]) ((2*(j+1):Nat):Int)):=by
 have sB:=x.2;have e1:zW zI ((2:Int)*(m:Int))=((2*m:Nat):Int):=by rw[zi (by omega) (by omega)];omega
 have e2:zW zI (((2*j+1)/2:Nat):Int)=(j:Int):=by rw[zi (by omega) (by omega)];omega
 have e3:zW zI (((2*j+1:Nat):Int)+1)=((2*(j+1):Nat):Int):=by rw[zi (by omega) (by omega)];omega
 conv=>lhs;unfold p5 M0
 simp only[e1,F9,e2,e3,yj,ba,hx,(uN x).2.2.1,(uN x).2.2.2];have hw:∀{R:Type} (z:Option R),zd (j:Int) b.size z=z:=λz=>zh (by omega);simp only[hw];rw[zT (by omega),zC];have RD:decide ((((2*j+1)% 2:Nat):Int)=1)=true:=zT (by omega);by_cases hj0:j=0
 ·have htn:¬t=bs []:=λe=>bR ⟨hj0,e⟩;rw[zT (by omega:((2*j+1:Nat):Int)=1),zC,zF htn,zD,RD,zC];by_cases h:9<x.1 % 16
  ·rw[if_pos h,zT (by omega)];rfl
  ·rw[if_neg h,zF (by omega),zD,tW (by omega),zT (by rw[lV];simp only[By];omega),zC]
 ·rw[zF (by omega:¬((2*j+1:Nat):Int)=1),zD,RD,zC];by_cases h:9<x.1 % 16
  ·rw[if_pos h,zT (by omega)];rfl
  ·rw[if_neg h,zF (by omega),zD,tW (by omega),zT (by rw[lV];simp only[By];omega),zC]
theorem aef(b:ByteArray)(hb:b.size<=1099511627776)(m:Nat)(hm:m<=b.size)(EJ:m<=500)(K:Nat)(h0:0<m)(x:Fin 256)(hx:ze b 0=(x.1:Int)):
 p5 (K+1) b (m:Int) (bs []) (1:Int)=(if x.1/16≠0 then some (.inl (bs [],(4:Int),(0:Int),bs [])) else if 9<x.1 % 16 then some (.inl (bs [],(3:Int),(0:Int),bs [])) else p5 K b (m:Int) (bs []++strOf [48+((x.1 % 16:Nat):Int)]) (2:Int)):=by
 have sB:=x.2;have e1:zW zI ((2:Int)*(m:Int))=((2*m:Nat):Int):=by rw[zi (by omega) (by omega)];omega
 have e2:zW zI (zaf (1:Int) 2)=0:=by decide
 have e3:zW zI ((1:Int)+1)=2:=by decide
 have e4:zaN (1:Int) 2=1:=by decide
 conv=>lhs;unfold p5 M0
 simp only[e1,e2,e3,e4,show((0:Int)).toNat=0 from rfl,hx,(uN x).2.2.1,(uN x).2.2.2];have hw:∀{R:Type} (z:Option R),zd (0:Int) b.size z=z:=λz=>zl (by omega) (by omega);simp only[hw];rw[zT (by omega),zC];simp only[decide_true,zC];by_cases hz:x.1/16=0
 ·rw[if_neg (λh=>h hz),zT (by omega),ab,zD];by_cases h:9<x.1 % 16
  ·rw[if_pos h,zT (by omega)];rfl
  ·rw[if_neg h,zF (by omega),zD,tW (by omega),zT (by rw[lV];simp only[By];show 0+1<=_;omega),zC]
 ·rw[if_pos hz,zF (by omega)];rfl
theorem aja(t:ByteArray)(a b:Int):t++strOf [a]++strOf [b]=t++strOf [a,b]:=by rw[zcw,<-z7d];rfl
theorem zvt:∀(l:List Int) (i:Nat) (o1 o2:Bool),0<i->dC o1 l i=dC o2 l i
 | [],i,o1,o2,_=>rfl
 |y::r,i,o1,o2,hi=>by
  have e:∀o,dC o (y::r) i=if 9<y/16\/9<y % 16 then some (3,(i:Int)) else dC o r (i+1):=λo=>by rw[dC,if_neg (λh=>absurd h.1 (by omega))]
  rw[e,e,zvt r (i+1) o1 o2 (by omega)]
theorem zge(b:ByteArray)(hb:b.size<=1099511627776)(m:Nat)(hm:m<=b.size)(EJ:m<=500)(odd:Bool):∀(n j K:Nat) (t:ByteArray),j+n=m->2*n<K->t.size+2*n<=1000->((odd=true\/t≠bs [])->0<j)->∃o',p5 K b (m:Int) t ((2*j:Nat):Int)=some (match dC (odd&&decide (0<j)) (((bl b).take m).drop j) j with
 |some e=> .inl (bs [],e.1,e.2,o')
 |none=> .inr (t++strOf (dL (((bl b).take m).drop j))))
 |n,j,0,t,_,hk,_,_=>by omega
 |0,j,K+1,t,hj,hk,ht,h0=>by
  have e1:zW zI ((2:Int)*(m:Int))=((2*m:Nat):Int):=by rw[zi (by omega) (by omega)];omega
  unfold p5 M0;rw[e1,zF (by omega),zD,GA (by rw[Of,zf];omega)];exact⟨t,by simp only[dC,dL];congr 2;apply xK;rw[oH];simp [bl,strOf]⟩
 |n+1,j,1,t,hj,hk,ht,h0=>by omega
 |n+1,j,K+2,t,hj,hk,ht,h0=>by
  have ap:j<b.size:=by omega
  have hl:j<(bl b).length:=by rw[zf];exact ap
  have Rq:j<((bl b).take m).length:=by rw[Of];omega
  obtain⟨x,hx,_,_⟩:=R6 (ii (zan hl));have sB:=x.2;have Nr:ze b j=(x.1:Int):=by rw[ui hl,hx]
  have hJ:((bl b).take m).drop j=(x.1:Int)::((bl b).take m).drop (j+1):=by rw[AT Rq,zcM,hx]
  have QR:(x.1:Int)/16=((x.1/16:Nat):Int):=by omega
  have QS:(x.1:Int)% 16=((x.1 % 16:Nat):Int):=by omega
  rw[ae5 b hb m hm EJ (K+1) t (by omega) (by omega) x Nr,hJ,dC,dL,QR,QS];have Gp:¬(j=0/\(odd&&decide (0<j))=true/\((x.1/16:Nat):Int)≠0):=by rintro⟨h1,h2,_⟩;rw[h1] at h2;simp at h2
  rw[if_neg Gp];by_cases h:9<x.1/16
  ·rw[if_pos h,if_pos (.inl (by omega))];exact⟨t,rfl⟩
  ·rw[if_neg h,ain b hb m hm EJ K _ (by rw[zaU,lV];simp only[By];omega) (by omega) x Nr (λe=>by have:=congrArg ByteArray.size e.2;rw[zaU,lV] at this;simp only[By] at this;have h0:(bs []).size=0:=rfl;omega)]
   by_cases h2:9<x.1 % 16
   ·rw[if_pos h2,if_pos (.inr (by omega))];exact⟨_,rfl⟩
   ·rw[if_neg h2,if_neg (by omega),aja];obtain⟨o',ih⟩:=zge b hb m hm EJ odd n (j+1) K (t++strOf [48+((x.1/16:Nat):Int),48+((x.1 % 16:Nat):Int)]) (by omega) (by omega) (by rw[zaU,lV];simp only[ls,zav];omega) (λ_=>by omega);refine⟨o',ih.trans ?_⟩;have hE:dC (odd&&decide (0<j+1)) (((bl b).take m).drop (j+1)) (j+1)=dC (odd&&decide (0<j)) (((bl b).take m).drop (j+1)) (j+1):=by exact zvt _ _ _ _ (by omega)
    rw[hE,zcw,<-z7d];rfl
theorem ztz(b:ByteArray)(n:Int)(hb:b.size<=1099511627776):ux b n=some (kb b n):=by
 unfold ux Bk kb;by_cases h0:n<0
 ·rw[zT h0,if_pos (.inl h0)];rfl
 ·rw[zF h0,zD];by_cases h1:999<n
  ·rw[zT h1,if_pos (.inr h1)];rfl
  ·rw[zF h1,zD,if_neg (λh=>h.elim h0 h1)];obtain⟨nn,rfl⟩:∃nn:Nat,n=nn:=⟨n.toNat,by omega⟩
   have ew:zW zI ((nn:Int)+1)=((nn+1:Nat):Int):=by rw[zi (by omega) (by omega)];omega
   have ew2:zW zI (((nn+1)/2:Nat):Int)=(((nn+1)/2:Nat):Int):=zi (by omega) (by omega);have em:((nn:Int)+1)/2=(((nn+1)/2:Nat):Int):=by omega
   have ep:((nn:Int)% 2).toNat=nn % 2:=by omega
   have eo:decide ((nn:Int)% 2=1)=decide (nn % 2=1):=decide_eq_decide.2 (by omega);rw[ew,F9,ew2,em,ba,eo,ep];generalize GD:(nn+1)/2=m;by_cases h2:(b.size:Int)<(m:Int)
   ·rw[zT h2,if_pos h2];rfl
   ·rw[zF h2,zD,if_neg h2];have e2m:zW zI ((2:Int)*(m:Int))=((2*m:Nat):Int):=by rw[zi (by omega) (by omega)];omega
    rw[e2m];dsimp only;by_cases hp:nn % 2=1
    ·have es:zW zI (((2*m:Nat):Int)-(nn:Int))=1:=by rw[zi (by omega) (by omega)];omega
     rw[es,zT hp];have hl:0<(bl b).length:=by rw[zf];omega
     have Rq:0<((bl b).take m).length:=by rw[Of];omega
     obtain⟨x,hx,_,_⟩:=R6 (ii (zan hl));have sB:=x.2;have Nr:ze b 0=(x.1:Int):=by rw[ui hl,hx]
     have hJ:(bl b).take m=(x.1:Int)::((bl b).take m).drop 1:=by have:=AT Rq;rw[GS,zcM,hx] at this;exact this
     have QR:(x.1:Int)/16=((x.1/16:Nat):Int):=by omega
     have QS:(x.1:Int)% 16=((x.1 % 16:Nat):Int):=by omega
     obtain⟨K,hK⟩:∃K,af=K+1:=⟨af-1,by rw[zo]⟩
     rw[hK,aef b hb m (by omega) (by omega) K (by omega) x Nr,hJ,dC,dL,QR,QS];by_cases hz:x.1/16=0
     ·have NC:¬((0:Nat)=0/\true=true/\((x.1/16:Nat):Int)≠0):=by simp;omega
      rw[if_neg (λh=>h hz),if_neg NC];by_cases h9:9<x.1 % 16
      ·rw[if_pos h9,if_pos (.inr (by omega))];rfl
      ·rw[if_neg h9,if_neg (by omega)];have NB:(bs []++strOf [48+((x.1 % 16:Nat):Int)]).size=1:=by rw[zaU,lV];rfl
       obtain⟨o',ih⟩:=zge b hb m (by omega) (by omega) true (m-1) 1 K (bs []++strOf [48+((x.1 % 16:Nat):Int)]) (by omega) (by rw[zo] at hK;omega) (by rw[NB];omega) (λ_=>by omega);rw[show((2*1:Nat):Int)=2 from rfl] at ih;rw[ih,zc,zvt _ 1 (true&&decide (0<1)) true (by omega)];cases dC true (((bl b).take m).drop 1) 1 with
       |some e=>rfl
       |none=>dsimp only;rw[zaA];unfold zkc;rw[hp];congr 2
     ·rw[if_pos hz,if_pos ⟨rfl,rfl,by omega⟩];rfl
    ·have es:zW zI (((2*m:Nat):Int)-(nn:Int))=((2*0:Nat):Int):=by rw[zi (by omega) (by omega)];omega
     rw[es,zF hp];obtain⟨o',ih⟩:=zge b hb m (by omega) (by omega) false m 0 af (bs []) (by omega) (by rw[zo];omega) (by show 0+_<=_;omega) (λh=>by rcases h with h|h;cases h;exact absurd rfl h);rw[ih,zc,GS,show(false&&decide (0<0))=false from rfl];cases dC false ((bl b).take m) 0 with
     |some e=>rfl
     |none=>dsimp only;rw[zaA];unfold zkc;rw[show nn % 2=0 by omega,GS];congr 2
theorem ud{a:Int}{l:List Int}:bE (a::l)=true↔cD a=true/\bE l=true:=by rw[zku,nd]
theorem uc{a:Int}:cD a=true↔48<=a/\a<=57:=by unfold cD;rw[decide_eq_true_eq]
theorem zvv:∀l:List Int,(dM l).length=l.length/2
 | []=>rfl
 | [a]=>by simp [dM]
 |a::b::r=>by rw[dM,ls,zvv r,ls,ls];omega
theorem zvu:∀l:List Int,(dL l).length=2*l.length
 | []=>rfl
 |x::r=>by rw[dL,ls,ls,zvu r,ls];omega
theorem TF:∀{l:List Int},bE l=true->∀y∈dM l,zn y
 | [],_,y,hy=>by simp [dM] at hy
 | [a],_,y,hy=>by simp [dM] at hy
 |a::b::r,h,y,hy=>by
  obtain⟨h1,h2⟩:=ud.1 h;obtain⟨h2,h3⟩:=ud.1 h2;rw[uc] at h1 h2;rw[dM] at hy;rcases If.1 hy with rfl|hy
  ·unfold zn;omega
  ·exact TF h3 y hy
theorem Em:∀{l:List Int},l.length % 2=0->bE l=true->dL (dM l)=l
 | [],_,_=>by simp [dM,dL]
 | [a],h,_=>by simp at h
 |a::b::r,h,hd=>by obtain⟨h1,h2⟩:=ud.1 hd;obtain⟨h2,h3⟩:=ud.1 h2;rw[uc] at h1 h2;rw[dM,dL,Em (by simp only[ls] at h;omega) h3,show 48+(16*(a-48)+(b-48))/16=a by omega,show 48+(16*(a-48)+(b-48))% 16=b by omega]
theorem Ek(odd:Bool):∀{l:List Int} {i:Nat},l.length % 2=0->bE l=true->(i=0->odd=true->l.getD 0 48=48)->dC odd (dM l) i=none
 | [],_,_,_,_=>by simp [dM,dC]
 | [a],_,h,_,_=>by simp at h
 |a::b::r,i,h,hd,ho=>by
  obtain⟨h1,h2⟩:=ud.1 hd;obtain⟨h2,h3⟩:=ud.1 h2;rw[uc] at h1 h2;rw[dM,dC,if_neg,if_neg (by omega)]
  ·exact Ek odd (by simp only[ls] at h;omega) h3 λhi=>by omega
  ·rintro⟨e1,e2,e3⟩;have:a=48:=ho e1 e2;omega
def iS(s:ByteArray):List Int:=if s.size % 2=1 then 48::bl s else bl s
theorem TG(s:ByteArray):(iS s).length % 2=0:=by
 unfold iS;split
 ·rw[ls,zf];omega
 ·rw[zf];omega
theorem Vn(s:ByteArray):(iS s).length/2=(s.size+1)/2:=by
 unfold iS;split
 ·rw[ls,zf]
 ·rw[zf];omega
theorem zvw{s:ByteArray}(h:bE (bl s)=true):bE (iS s)=true:=by
 unfold iS;split
 ·exact ud.2 ⟨rfl,h⟩
 ·exact h
theorem zl4{s:ByteArray}(h:s.size<=999)(hd:bE (bl s)=true):oR s=(strOf (dM (iS s)),true):=by unfold oR iS;rw[zT ⟨h,hd⟩,zC]
theorem zcd{s:ByteArray}(h:s.size<=999)(hd:bE (bl s)=true):(oR s).1.size=(s.size+1)/2:=by rw[zl4 h hd];show(strOf _).size=_;rw[lV,zvv,Vn]
theorem al7{s:ByteArray}(h:s.size<=999)(hd:bE (bl s)=true):kb (oR s).1 (s.size:Int)=(s,0,0):=by
 have dd:=zcd h hd;have hb:bl (oR s).1=dM (iS s):=by rw[zl4 h hd];exact ue (TF (zvw hd))
 unfold kb;rw[if_neg (by omega),if_neg (by rw[dd];omega),hb,za6 (by rw[zvv,Vn];omega),Ek _ (TG s) (zvw hd),Em (TG s) (zvw hd)]
 ·dsimp only;by_cases hp:s.size % 2=1
  ·rw[show((s.size:Int)% 2).toNat=1 by omega];unfold iS;rw[if_pos hp,zeK,GS,Cq]
  ·rw[show((s.size:Int)% 2).toNat=0 by omega];unfold iS;rw[if_neg hp,GS,Cq]
 ·intro _ ho;have ho:=of_decide_eq_true ho;unfold iS;rw[if_pos (by omega)];rfl
theorem TE{odd:Bool}:∀{l:List Int} {i:Nat},dC odd l i=none->(∀x∈l,x/16<=9/\x % 16<=9)/\(i=0->odd=true->l.getD 0 0/16=0)
 | [],i,_=>⟨λx hx=>(by cases hx),λ_ _=>rfl⟩
 |a::r,i,h=>by
  rw[dC] at h;by_cases h1:i=0/\odd=true/\a/16≠0
  ·rw[if_pos h1] at h;cases h
  ·rw[if_neg h1] at h;by_cases h2:9<a/16\/9<a % 16
   ·rw[if_pos h2] at h;cases h
   ·rw[if_neg h2] at h;refine⟨λx hx=> ?_,λhi ho=> ?_⟩
    ·rcases If.1 hx with rfl|hx
     ·omega
     ·exact(TE h).1 x hx
    ·show a/16=0;by_cases h3:a/16=0
     ·exact h3
     ·exact absurd ⟨hi,ho,h3⟩ h1
theorem En:∀{l:List Int},(∀x∈l,zn x)->dM (dL l)=l
 | [],_=>by simp [dL,dM]
 |x::r,h=>by have hx:=h x IS;unfold zn at hx;rw[dL,dM,En λy hy=>h y (Cs _ hy),show 16*(48+x/16-48)+(48+x % 16-48)=x by omega]
theorem Vm:∀{l:List Int},(∀x∈l,zn x)->(∀x∈l,x/16<=9/\x % 16<=9)->bE (dL l)=true
 | [],_,_=>rfl
 |x::r,h,h9=>by have hx:=h x IS;have hy:=h9 x IS;unfold zn at hx;rw[dL];exact ud.2 ⟨uc.2 (by omega),ud.2 ⟨uc.2 (by omega),Vm (λy hy=>h y (Cs _ hy)) λy hy=>h9 y (Cs _ hy)⟩⟩
theorem TW{l:List Int}(h:bE l=true):∀x∈l,zn x:=λx hx=>by have:=uc.1 (OF.1 h x hx);unfold zn;omega
theorem TH{b t:ByteArray}{n i:Int}(h:kb b n=(t,0,i))(hb:(b.size:Int)=(n+1)/2):oR t=(b,true)/\(t.size:Int)=n/\bE (bl t)=true:=by
 unfold kb at h;by_cases h0:n<0\/999<n
 ·rw[if_pos h0] at h;cases h
 ·rw[if_neg h0,if_neg (by omega),<-hb,ba,za6 (by rw[zf];exact zag _)] at h;cases he:dC (decide (n % 2=1)) (bl b) 0 with
  |some e=>
   rw[he] at h;dsimp only at h;injection h with _ h
   injection h with h _
   exfalso;have key:∀{l:List Int} {i:Nat} {odd:Bool} {e:Int×Int},dC odd l i=some e->e.1≠0:=by
    intro l
    induction l with
    |nil=>intro i odd e h;cases h
    |cons a r ih=>
     intro i odd e h;rw[dC] at h;split at h
     ·cases h;decide
     ·split at h
      ·cases h;simp
      ·exact ih h
   exact key he h
  |none=>
   rw[he] at h;dsimp only at h;obtain⟨g1,g2⟩:=TE he;have oM:∀x∈bl b,zn x:=λx hx=>ii hx;have c8:=Vm oM g1;have ht:t=strOf ((dL (bl b)).drop (n % 2).toNat):=(congrArg Prod.fst h).symm;have ED:bE ((dL (bl b)).drop (n % 2).toNat)=true:=OF.2 λx hx=>OF.1 c8 x (zb1 hx);have dp:bl t=(dL (bl b)).drop (n % 2).toNat:=by rw[ht];exact ue (TW ED)
   have jd:t.size=2*b.size-(n % 2).toNat:=by rw[<-zf,dp,zaD,zvu,zf]
   have hX:iS t=dL (bl b):=by
    unfold iS;by_cases hp:n % 2=1
    ·rw[if_pos (by omega),dp,show(n % 2).toNat=1 by omega];have h1:=g2 rfl (by rw[zT hp]);cases hl:bl b with
     |nil=>
      have h9:b.size=0:=by rw[<-zf,hl];rfl
      omega
     |cons x r=>rw[hl] at h1;have h1:x/16=0:=h1;rw[dL,zeK,GS,h1];rfl
    ·rw[if_neg (by omega),dp,show(n % 2).toNat=0 by omega,GS]
   have hd:bE (bl t)=true:=by rw[dp];exact ED
   refine⟨?_,by omega,hd⟩;rw[zl4 (by omega) hd,hX,En oM,Cq]
theorem QP{a:Int}(h:cD a=true):zW zU ((16:Int)*(zW zU (a-48)))=16*(a-48):=by have:=uc.1 h;simp [zcP,zb3,zb4];omega
theorem QQ{c a:Int}(h:cD a=true)(hc:cD c=true):zW zU (16*(c-48)+zW zU (a-48))=16*(c-48)+(a-48):=by have:=uc.1 h;have:=uc.1 hc;simp [zcP,zb3,zb4];omega
theorem amY(o:List Int)(x y:Int):(o++ [x]).set o.length y=o++ [y]:=by rw[List.set_append_right _ _ (zag _)];simp
theorem aio(o:List Int)(x:Int):(o++ [x]).getD o.length 0=x:=by rw[be,List.getElem?_append_right (zag _)];simp
theorem Te(s:ByteArray)(hs:s.size<=1099511627776)(hd:bE (bl s)=true):∀(n j k:Nat),j+n=s.size->n<k->
 (∀o:List Int,o.length+n<=35184372088832->n % 2=0->CF k s o 0 (j:Int)=some (o++dM ((bl s).drop j)))/\
 (∀(o:List Int) (c:Int),o.length+n<=35184372088832->cD c=true->n % 2=1->CF k s (o++ [16*(c-48)]) 1 (j:Int)=some (o++dM (c::(bl s).drop j)))
 |n,j,0,_,hk=>by omega
 |0,j,k+1,hj,hk=>by refine⟨λo ho hp=> ?_,λo c ho hc hp=>by omega⟩;unfold CF OL;rw[zF (by omega),zD,GA (by rw[zf];omega)];simp [dM]
 |n+1,j,k+1,hj,hk=>by
  have ap:j<s.size:=by omega
  have hl:j<(bl s).length:=by rw[zf];exact ap
  have d1:=OF.1 hd _ (zan hl);obtain⟨ih0,ih1⟩:=Te s hs hd n (j+1) k (by omega) (by omega);refine⟨λo ho hp=> ?_,λo c ho hc hp=> ?_⟩
  ·unfold CF OL;rw[zT (by omega),zC,zh ap,ba,ui hl,QP d1,zq (by omega),zT (rfl:(0:Int)=0),zC,zT (by simp only[By];omega),zC];rw[show zW zI ((1:Int)-0)=1 from by decide];dsimp only;rw[ih1 o _ (by omega) d1 (by omega),<-AT hl]
  ·unfold CF OL;have hi:zW zI ((((o++ [16*(c-48)]).length:Nat):Int)-1)=(o.length:Int):=by rw[zi (by simp only[th,By];omega) (by simp only[th,By];omega),th,By];omega
   rw[zT (by omega),zC,zh ap,ba,ui hl,zq (by omega),zF (by decide:¬(1:Int)=0),zD,hi,zh (by rw[th,By];omega),ba,aio,amY,QQ d1 hc];rw[show zW zI ((1:Int)-1)=0 from by decide];dsimp only;rw[ih0 _ (by rw[th,By];omega) (by omega),AT hl,dM,MM];rfl
theorem zu1(s:ByteArray)(hs:s.size<=maxLen):Da s=some (oR s):=by
 unfold Da OK oR;by_cases h1:(999:Int)<(s.size:Int)
 ·rw[zT h1,zC,zF (by omega)];rfl
 ·rw[zF h1,zD,zfi s hs,zc];cases hd:bE (bl s) with
  |false=>rw[zF (p:=s.size<=999/\false=true) (λh=>by cases h.2)];rfl
  |true=>
   rw[ab,zD,zT (⟨by omega,rfl⟩:s.size<=999/\true=true),zC,yj];obtain⟨l0,l1⟩:=Te s (by omega) hd s.size 0 af (by omega) (by rw[zo];omega);rw[show((0:Nat):Int)=0 from rfl,GS] at l0 l1;by_cases hp:s.size % 2=1
   ·rw[if_pos hp,zT (by omega),zC,hp,zT (by decide),zC];have:=l1 [] 48 (by simp;omega) rfl hp;rw[zah] at this⊢;dsimp only;rw[show([(0:Int)]:List Int)=[16*((48:Int)-48)] from rfl,show((1:Nat):Int)=1 from rfl,this,zc];rfl
   ·rw[if_neg hp,zF (by omega),zD];have:=l0 [] (by simp;omega) (by omega);rw[zah] at this;dsimp only;rw[show s.size % 2=0 by omega,show((0:Nat):Int)=0 from rfl,this,zc];rfl
def fK(ae form:Int):Bool:=decide ((ae=1\/ae=2)/\(form=2\/form=3))
def lC(ae form:Int):Nat:=if ae=2 then(form.toNat+1)/2 else form.toNat
def CP(ae form n:Int):ByteArray×Int:=
 bif fK ae form then(bif(jm n form).2 then(if ae=2 then(oR (jm n form).1).1 else(jm n form).1,0) else(bs [],5)) else(bs [],1)
def pU(ae form:Int)(s:ByteArray):Option Int:=
 if ae=2 then(if(kb s form).2.1=0 then(if(du (bl (kb s form).1)).2=true then some (du (bl (kb s form).1)).1 else none) else none) else if(du (bl s)).2=true then some (du (bl s)).1 else none
def jI(ae form:Int)(b:ByteArray)(at_:Int):Int×Int×Int:=
 bif fK ae form&&decide (0<=at_/\at_<=b.size) then(if b.size<at_.toNat+lC ae form then(0,0,2) else
  match pU ae form (b.extract at_.toNat (at_.toNat+lC ae form)) with
  |some n=>(n,((at_.toNat+lC ae form:Nat):Int),0)
  |none=>(0,0,3)) else(0,0,1)
theorem zm8(n w:Int):(jm n w).1.size<=18:=by
 by_cases h:0<=n/\1<=w/\w<=18/\n.toNat/10^w.toNat=0
 ·rw[zm9 h];show(strOf _).size<=18;rw[lV,zga];omega
 ·rw[CQ h];decide
theorem aiP(ae form n:Int)(hn:n<=9223372036854775807):s8 ae form n=some (CP ae form n):=by
 unfold s8 zq7 s9 Z7 kJ Z8 CP fK;by_cases h1:ae=1<;>by_cases h2:ae=2<;>by_cases h3:form=2<;>by_cases h4:form=3<;>(try(exfalso;omega))<;>simp [h1,h2,h3,h4,ap5 _ _ hn]
 all_goals
  cases hp:(jm n _).2<;>simp [hp]
 all_goals
  rw[zl2 _ (by have:=zm8 n;simp only[maxLen];first|(have:=this 2;omega)|(have:=this 3;omega))];rfl
theorem ajH(ae form n:Int)(hn:n<=9223372036854775807):F3 ae form n=some (CP ae form n):=by
 unfold F3 BJ Dd zkl CP fK;by_cases h1:ae=1<;>by_cases h2:ae=2<;>by_cases h3:form=2<;>by_cases h4:form=3<;>(try(exfalso;omega))<;>simp [h1,h2,h3,h4,Vb _ _ hn]
 all_goals
  cases hp:(jm n _).2<;>simp [hp]
 all_goals
  rw[zu1 _ (by have:=zm8 n;simp only[maxLen];first|(have:=this 2;omega)|(have:=this 3;omega))];rfl
theorem Co{b:ByteArray}{i n:Nat}(h:i+n<=b.size):(b.extract i (i+n)).size=n:=by rw[zar];omega
theorem YZ{b t:ByteArray}{n e i:Int}(h:kb b n=(t,e,i)):t.size<=1998:=by
 unfold kb at h;split at h
 ·cases h;decide
 ·split at h
  ·cases h;decide
  ·split at h
   ·cases h;decide
   ·cases h;rw[lV,zaD,zvu,Of];omega
theorem aiN(ae form:Int)(b:ByteArray)(at_:Int)(hb:b.size<=1099511627776):vA ae form b at_=some (jI ae form b at_):=by
 unfold vA zq4 s9 Z7 kJ Z8 jI fK;by_cases cq:0<=at_/\at_<=b.size
 ·obtain⟨m,rfl⟩:∃m:Nat,at_=m:=⟨at_.toNat,by omega⟩
  have hm:m<=b.size:=by omega
  have w0:zW zI ((b.size:Int)-(m:Int))=(b.size:Int)-m:=zi (by omega) (by omega);have w1:∀k:Nat,k<=3->zW zI ((m:Int)+(k:Int))=((m+k:Nat):Int):=λk hk=>by rw[zi (by omega) (by omega)];omega
  have z1:=Y6 2 (by decide) (by decide);have z2:=Y6 3 (by decide) (by decide);have v1:=w1 1 (by decide);have v2:=w1 2 (by decide);have v3:=w1 3 (by decide);rw[show((1:Nat):Int)=1 from rfl] at v1;rw[show((2:Nat):Int)=2 from rfl] at v2;rw[show((3:Nat):Int)=3 from rfl] at v3;have t2:((m:Int)+2).toNat=m+2:=by omega
  have t3:((m:Int)+3).toNat=m+3:=by omega
  have a1:¬(m:Int)<0:=by omega
  have a2:¬(b.size:Int)<m:=by omega
  have a3:0<=((m:Int)):=by omega
  have a4:(m:Int)<=b.size:=by omega
  by_cases h1:ae=1<;>by_cases h2:ae=2<;>by_cases h3:form=2<;>by_cases h4:form=3<;>(try(exfalso;omega))<;>simp [h1,h2,h3,h4,a1,a2,w0,z1,z2,v1,v2,v3,lC]
  all_goals
   rw[zT hm,zC];split
   ·rename_i hc;rw[zT (by omega),zC]
   ·rename_i hc;rw[zF (by omega),zD,zT (by omega),zC,zT (by omega),zC,zT (by omega),zC]
    try rw[t2]
    try rw[t3]
    first
     |(rw[XX _ (by rw[zar];simp only[maxLen];omega),zc]
       unfold pU;rw[if_neg (by decide)];cases(du _).2<;>rfl)
     |(rw[zl1 _ _ (by rw[zar];omega),zc]
       unfold pU;rw[if_pos rfl];generalize hg:kb _ _=gg;obtain⟨t,e,i⟩:=gg;dsimp only;by_cases he:e=0
       ·rw[zT he,zC,if_pos he,XX _ (by have:=YZ hg;simp only[maxLen];omega),zc];cases(du _).2<;>rfl
       ·rw[zF he,if_neg he];rfl)
 ·rw[zF (p:=0<=at_/\at_<=(b.size:Int)) cq,zbW,zD];by_cases h1:ae=1<;>by_cases h2:ae=2<;>by_cases h3:form=2<;>by_cases h4:form=3<;>(try(exfalso;omega))<;>by_cases h5:at_<0<;>by_cases h6:(b.size:Int)<at_<;>(try(exfalso;omega))<;>simp [h1,h2,h3,h4,h5,h6]
theorem ajB(ae form:Int)(b:ByteArray)(at_:Int)(hb:b.size<=1099511627776):PE ae form b at_=some (jI ae form b at_):=by
 unfold PE BI Dd zkl jI fK;by_cases cq:0<=at_/\at_<=b.size
 ·obtain⟨m,rfl⟩:∃m:Nat,at_=m:=⟨at_.toNat,by omega⟩
  have hm:m<=b.size:=by omega
  have w0:zW zI ((b.size:Int)-(m:Int))=(b.size:Int)-m:=zi (by omega) (by omega);have w1:∀k:Nat,k<=3->zW zI ((m:Int)+(k:Int))=((m+k:Nat):Int):=λk hk=>by rw[zi (by omega) (by omega)];omega
  have z1:zW zI 1=1:=by decide
  have z2:zW zI 2=2:=by decide
  have v1:=w1 1 (by decide);have v2:=w1 2 (by decide);have v3:=w1 3 (by decide);rw[show((1:Nat):Int)=1 from rfl] at v1;rw[show((2:Nat):Int)=2 from rfl] at v2;rw[show((3:Nat):Int)=3 from rfl] at v3;have t2:((m:Int)+2).toNat=m+2:=by omega
  have t3:((m:Int)+3).toNat=m+3:=by omega
  have a1:¬(m:Int)<0:=by omega
  have a2:¬(b.size:Int)<m:=by omega
  have a3:0<=((m:Int)):=by omega
  have a4:(m:Int)<=b.size:=by omega
  by_cases h1:ae=1<;>by_cases h2:ae=2<;>by_cases h3:form=2<;>by_cases h4:form=3<;>(try(exfalso;omega))<;>simp [h1,h2,h3,h4,a1,a2,w0,z1,z2,v1,v2,v3,lC]
  all_goals
   rw[zT hm,zC];split
   ·rename_i hc;rw[zT (by omega),zC]
   ·rename_i hc;rw[zF (by omega),zD,zT (by omega),zC,zT (by omega),zC,zT (by omega),zC]
    try rw[t2]
    try rw[t3]
    first
     |(rw[zfm _ (by rw[zar];simp only[maxLen];omega),zc]
       unfold pU;rw[if_neg (by decide)];cases(du _).2<;>rfl)
     |(rw[ztz _ _ (by rw[zar];omega),zc]
       unfold pU;rw[if_pos rfl];generalize hg:kb _ _=gg;obtain⟨t,e,i⟩:=gg;dsimp only;by_cases he:e=0
       ·rw[zT he,zC,if_pos he,zfm _ (by have:=YZ hg;simp only[maxLen];omega),zc];cases(du _).2<;>rfl
       ·rw[zF he,if_neg he];rfl)
 ·rw[zF (p:=0<=at_/\at_<=(b.size:Int)) cq,zbW,zD];by_cases h1:ae=1<;>by_cases h2:ae=2<;>by_cases h3:form=2<;>by_cases h4:form=3<;>(try(exfalso;omega))<;>by_cases h5:at_<0<;>by_cases h6:(b.size:Int)<at_<;>(try(exfalso;omega))<;>simp [h1,h2,h3,h4,h5,h6]
theorem J6(n:Int):Q4 n=some (if n<0\/65535<n then 0 else if 255<n then 3 else if 127<n then 2 else 1):=by
 unfold Q4 qy;by_cases h1:n<0
 ·rw[zT h1,if_pos (.inl h1)];rfl
 by_cases h2:(65535:Int)<n
 ·rw[zF h1,zT h2,if_pos (.inr h2)];rfl
 rw[zF h1,zF h2,if_neg (by omega)];by_cases h3:(255:Int)<n
 ·rw[zT h3,if_pos h3];rfl
 by_cases h4:(127:Int)<n
 ·rw[zF h3,zT h4,if_neg h3,if_pos h4];rfl
 ·rw[zF h3,zF h4,if_neg h3,if_neg h4];rfl
theorem Ew:∃k,af=k+1+1+1:=⟨af-3,by rw[zo]⟩
theorem or_zero{y:Int}(hy:zn y):aU .or .i64 (zW zI (0*2^min (8:Int).toNat 64)) (zW zI y)=y:=by obtain⟨k,rfl⟩:=nb hy;clear hy;revert k;decide+kernel
theorem ahL(s:ByteArray)(hs:s.size<=9223372036854775000)(a:Int):Q3 s a=Dg s a:=by
 unfold Q3 l4 Dg zkn;by_cases h1:a<0
 ·rw[zT h1];rfl
 rw[zF h1,zD,zD];by_cases h2:(s.size:Int)<a
 ·rw[zT h2];rfl
 rw[zF h2,zD,zD];by_cases h3:a=(s.size:Int)
 ·rw[zT h3];rfl
 have wa:∀{R:Type} (x:Option R),zd a s.size x=x:=λx=>zl (by omega) (by omega);rw[zF h3,zD,zD];simp only[wa];obtain⟨x,hx⟩:=nb (xA s a.toNat);have sB:=x.2;have w1:zW zI (a+1)=a+1:=zi (by omega) (by omega);have w2:zW zI (x.1:Int)=(x.1:Int):=zi (by omega) (by omega);have w4:zW zI ((s.size:Int)-a)=(s.size:Int)-a:=zi (by omega) (by omega);have w5:zW zI ((s.size:Int)-(a+1))=(s.size:Int)-(a+1):=zi (by omega) (by omega);have w6:zW zI ((x.1:Int)-128)=(x.1:Int)-128:=zi (by omega) (by omega);have w7:zW zI ((x.1:Int)-127)=(x.1:Int)-127:=zi (by omega) (by omega);obtain⟨k,hk⟩:=Ew;simp only[hx,w2,w1,w4,w5,w6,w7,hk];by_cases h4:(127:Int)<(x.1:Int)
 ·rw[zT h4,zC,zF (by omega:¬(x.1:Int)<128),zD];by_cases h5:(x.1:Int)=129
  ·have wn:zW zI (0+1)=1:=rfl;simp only[h5];by_cases h6:(s.size:Int)-a<2
   ·have e1:((s.size:Int)-(a+1)<129-128):=by omega
    have e2:((s.size:Int)-a<129-127):=by omega
    rw[zT e1,zT e2];rfl
   ·have e1:¬((s.size:Int)-(a+1)<129-128):=by omega
    have e2:¬((s.size:Int)-a<129-127):=by omega
    have wb:∀{R:Type} (x:Option R),zd (a+1) s.size x=x:=λx=>zl (by omega) (by omega);have wc:∀{R:Type} (x:Option R),zd (zW zI (a+1+0)) s.size x=x:=λx=>by rw[zgB,w1];exact wb x
    obtain⟨y,hy⟩:=nb (xA s (a+1).toNat);have hy2:=y.2;have w3:zW zI (y.1:Int)=(y.1:Int):=zi (by omega) (by omega);have oz:=or_zero (y:=(y.1:Int)) ⟨by omega,by omega⟩;rw[w3] at oz;rw[zF e1,zF e2];have l1:fy (k+1+1+1) s (a+1) 0 (129-128) (129-128) 0=some (a+1,(y.1:Int),129-128):=by simp only[fy,l5];rw[show decide ((0:Int)<129-128)=true from rfl,zC,wc,wn,show decide ((1:Int)<129-128)=false from rfl,zD,zgB,w1,hy,w3,oz]
    simp only[wb,hy,w3];show(fy (k+1+1+1) s (a+1) 0 (129-128) (129-128) 0).bind _=_;rw[l1,ir];unfold l6;dsimp only;rw[J6,ir];by_cases h7:(y.1:Int)<128
    ·rw[if_neg (by omega),if_neg (by omega),if_neg (by omega),zT h7];rfl
    ·rw[if_neg (by omega),if_neg (by omega),if_pos (by omega),zF h7];have:zW zI (a+1+(129-128))=zW zI (a+2):=by congr 1;omega
     simp only[this];rfl
  ·by_cases h6:(x.1:Int)=130
   ·have wn:zW zI (0+1)=1:=rfl;have wm:zW zI (1+1)=2:=rfl;simp only[h6];by_cases h7:(s.size:Int)-a<3
    ·have e1:((s.size:Int)-(a+1)<130-128):=by omega
     have e2:((s.size:Int)-a<130-127):=by omega
     rw[zT e1,zT e2];rfl
    ·have e1:¬((s.size:Int)-(a+1)<130-128):=by omega
     have e2:¬((s.size:Int)-a<130-127):=by omega
     have wb:∀{R:Type} (x:Option R),zd (a+1) s.size x=x:=λx=>zl (by omega) (by omega);have w8:zW zI (a+2)=a+2:=zi (by omega) (by omega);have w9:zW zI (a+1+1)=a+2:=by rw[zi (by omega) (by omega)];omega
     have wd:∀{R:Type} (x:Option R),zd (a+2) s.size x=x:=λx=>zl (by omega) (by omega);obtain⟨y,hy⟩:=nb (xA s (a+1).toNat);obtain⟨z,hz⟩:=nb (xA s (a+2).toNat);have hy2:=y.2;have hz2:=z.2;have w3:zW zI (y.1:Int)=(y.1:Int):=zi (by omega) (by omega);have Sv:zW zI (z.1:Int)=(z.1:Int):=zi (by omega) (by omega);have oz:=or_zero (y:=(y.1:Int)) ⟨by omega,by omega⟩;have ob:=zwd (x:=(y.1:Int)) (y:=(z.1:Int)) ⟨by omega,by omega⟩ ⟨by omega,by omega⟩;rw[w3] at oz;rw[w3,Sv] at ob;rw[zF e1,zF e2];have l1:fy (k+1+1+1) s (a+1) 0 (130-128) (130-128) 0=some (a+1,(y.1:Int)*256+(z.1:Int),130-128):=by simp only[fy,l5];rw[show decide ((0:Int)<130-128)=true from rfl,zC,wn,wm,show decide ((1:Int)<130-128)=true from rfl,zC,show decide ((2:Int)<130-128)=false from rfl,zD,zgB,w1,wb,w9,wd,hy,hz,w3,Sv,oz,ob]
     have w5':zW zI (256*(y.1:Int))=256*(y.1:Int):=zi (by omega) (by omega);have w6':zW zI (256*(y.1:Int)+(z.1:Int))=(y.1:Int)*256+(z.1:Int):=by rw[zi (by omega) (by omega)];omega
     simp only[wb,w8,wd,hy,hz,w3,Sv,w5',w6'];show(fy (k+1+1+1) s (a+1) 0 (130-128) (130-128) 0).bind _=_;rw[l1,ir];unfold l6;dsimp only;rw[J6,ir];by_cases h8:(y.1:Int)=0
     ·rw[if_neg (by omega),if_neg (by omega),zT h8];by_cases h9:(127:Int)<(y.1:Int)*256+(z.1:Int)
      ·rw[if_pos h9];rfl
      ·rw[if_neg h9];rfl
     ·rw[if_neg (by omega),if_pos (by omega),zF h8];have:zW zI (a+1+(130-128))=zW zI (a+3):=by congr 1;omega
      simp only[this];rfl
   ·rw[zF h5,zF h6];by_cases h7:(x.1:Int)=128
    ·rw[zT h7];rfl
    ·rw[zF h7,zT (by omega:(130:Int)<(x.1:Int))];rfl
 ·rw[zF h4,zD,zT (by omega:(x.1:Int)<128),zC,zF (by omega:¬(s.size:Int)-(a+1)<0),zD];have l1:fy (k+1+1+1) s (a+1) (x.1:Int) 0 0 0=some (a+1,(x.1:Int),0):=by simp only[fy,l5];rw[show decide ((0:Int)<0)=false from rfl,zD]
  show(fy (k+1+1+1) s (a+1) (x.1:Int) 0 0 0).bind _=_;rw[l1,ir];unfold l6;dsimp only;rw[J6,ir,if_neg (by omega),if_neg (by omega),if_neg (by omega),zgB,w1];rfl
abbrev aQ:=Int×ByteArray×Unit
theorem SX(l:List aQ)(hl:l.length<=9223372036854775807)(t:Int):∀(m j k:Nat),j+m=l.length->m<k->M7 k l (l.length:Int) t (j:Int)=some (if t∈(l.drop j).map (λv=>v.1) then .inl true else .inr ())
 |m,j,0,_,hk=>by omega
 |0,j,k+1,hj,hk=>by unfold M7 zkq;rw[zF (by omega),GA (by omega)];rfl
 |m+1,j,k+1,hj,hk=>by
  have ap:j<l.length:=by omega
  have hg:∀d,l.getD j d=l[j]:=λd=>by rw[be,ks ap];rfl
  unfold M7 zkq;rw[zT (by omega),zC,zh ap,ba,hg,AT ap,zaq];by_cases h:l[j].1=t
  ·rw[zT h,if_pos (by rw[h];exact IS)];rfl
  ·rw[zF h,zD,zq (by omega)];dsimp only;rw[SX l hl t m (j+1) k (by omega) (by omega)];by_cases h2:t∈(l.drop (j+1)).map (λv=>v.1)
   ·rw[if_pos h2,if_pos (Cs _ h2)]
   ·rw[if_neg h2,if_neg (λh3=>(If.1 h3).elim (λe=>h e.symm) h2)]
theorem VK(l:List aQ)(hl:l.length<=maxLen)(t:Int):PG l (l.length:Int) t=some (decide (t∈l.map λv=>v.1)):=by
 rw[zj] at hl;unfold PG BM;dsimp only;have:=SX l hl t l.length 0 af (by omega) (by rw[zo];omega);rw[show((0:Nat):Int)=(0:Int) from rfl,GS] at this;rw[this,ir];by_cases h:t∈l.map λv=>v.1
 ·rw[if_pos h,zT h];rfl
 ·rw[if_neg h,zF h];rfl
theorem Wp(b:ByteArray)(hb:b.size<=9223372036854775000):∀(k:Nat) (t5:List aQ) (t7:Int),t5.length<=5864062014805->Oh k b t5 t7 (eh (t5.map λv=>v.1))=FJ k b t5 t7
 |0,_,_,_=>rfl
 |k+1,t5,t7,hl=>by
  unfold Oh zru FJ zkp;rw[ajb b hb];generalize decide (t7<(b.size:Int))=c0;cases c0 with
  |false=>rfl
  |true=>
   simp only[zC];cases Df b t7 with
   |none=>rfl
   |some r1=>
    simp only[ir];generalize(!decide (r1.2.2=0))=c1;cases c1 with
    |true=>rfl
    |false=>
     simp only[zD];rw[ahL b hb];cases Dg b r1.2.1 with
     |none=>rfl
     |some r2=>
      simp only[ir];generalize(!decide (r2.2.2=0))=c2;cases c2 with
      |true=>rfl
      |false=>
       simp only[zD];generalize decide (zW zI ((b.size:Int)-r2.2.1)<r2.1)=c3;cases c3 with
       |true=>rfl
       |false=>
        simp only[zD];rw[VK t5 (by rw[zj];omega),ir];have e1:=zc3 (gL (.int .i64)) (λ_ _=>rfl) r1.1 (t5.map λv=>v.1);have e2:=zc4 (gL (.int .i64)) (λ_ _=>rfl) r1.1 (t5.map λv=>v.1);by_cases hm:r1.1∈t5.map λv=>v.1
        ·rw[e1.2 hm,zT hm];rfl
        ·rw[L6 e1 hm,L6 e2 hm,zF hm];simp only[zD];rw[zbo];have hs:(t5.map λv=>v.1)++ [r1.1]=(t5++ [((r1.1,(b.extract r2.2.1.toNat (zW zI (r2.2.1+r2.1)).toNat),()):aQ)]).map λv=>v.1:=by simp
         rw[hs];by_cases hn:(t5.length+1)*24<=140737488355328
         ·rw[Wp b hb k _ _ (by simp;omega)]
         ·have:decide ((t5.length+(aa ([(r1.1,(b.extract r2.2.1.toNat (zW zI (r2.2.1+r2.1)).toNat),())]:List aQ)))*24<=140737488355328)=false:=zF (by simp;omega);simp only[this,zD]
theorem aje(b:ByteArray)(hb:b.size<=9223372036854775000):vQ b=Dh b:=by unfold vQ zrt Dh zko;dsimp only;have:=Wp b hb af [] 0 (by simp);rw[show eh (([]:List aQ).map λv=>v.1)=[] from rfl] at this;rw[this];rfl
theorem alZ(s:Spec)(x:ByteArray)(hx:x.size<=9223372036854775000):cf s x=kg s x:=by unfold cf zrb kg OO;rw[z59,xx,ajw _ _ (by rw[zj];omega),zfl _ _ (by rw[zj];omega),aje x hx]
theorem adJ(a b:Spec):mN a b=xT a b:=by
 unfold mN zrc xT OP yH zrd;rw[z59,xx,z59,xx,al0,zfv];simp only[ir];by_cases h1:bM a=0
 ·by_cases h2:bM b=0
  ·simp only[h1,h2,decide_true,zC,ab,zD];by_cases h3:a.2.2.2.1<=b.2.2.2.1
   ·rw[zT h3,zF (by omega:¬b.2.2.2.1<a.2.2.2.1)];by_cases h4:b.2.2.2.2.1<=a.2.2.2.2.1
    ·rw[zT h4,zF (by omega:¬a.2.2.2.2.1<b.2.2.2.2.1)];simp only[zC,zD];by_cases h5:a.2.1=5
     ·simp [h5]
     ·by_cases h6:a.2.1=6
      ·simp [h6]
      ·by_cases h7:b.2.1=6
       ·simp [h5,h6,h7]
       ·simp [h5,h6,h7]
    ·rw[zF h4,zT (by omega:a.2.2.2.2.1<b.2.2.2.2.1)];rfl
   ·rw[zF h3,zT (by omega:b.2.2.2.1<a.2.2.2.1)];rfl
  ·simp [h1,h2]
 ·simp [h1]
theorem ajc(s:ByteArray)(hs:s.size<=9223372036854775000)(a:Int)(h0:0<=a)(h1:a<s.size):∃r,Df s a=some r/\(r.2.2=0->a<r.2.1/\r.2.1<=s.size):=by
 unfold Df zkm;have wa:∀{R:Type} (x:Option R),zd a s.size x=x:=λx=>zl (by omega) (by omega);rw[zF (by omega:¬a<0),zF (by omega:¬(s.size:Int)<a),zF (by omega:¬a=(s.size:Int))];simp only[zD,wa];obtain⟨x,hx⟩:=nb (xA s a.toNat);have w1:zW zI (a+1)=a+1:=zi (by omega) (by omega);have w4:zW zI ((s.size:Int)-a)=(s.size:Int)-a:=zi (by omega) (by omega);rw[hx,w1,w4];rcases zgd x with h|⟨h,Gd⟩|⟨h,Gd⟩
 ·rw[h];exact⟨_,rfl,λh=>by cases h⟩
 ·rw[h];exact⟨_,rfl,λ_=>⟨by show a<a+1;omega,by show a+1<=_;omega⟩⟩
 ·rw[h,ir];simp only[show decide ((2:Int)=0)=false from rfl,show decide ((2:Int)=1)=false from rfl,zD];by_cases h4:(s.size:Int)-a<2
  ·rw[zT h4];exact⟨_,rfl,λh=>by cases h⟩
  ·have wb:∀{R:Type} (x:Option R),zd (a+1) s.size x=x:=λx=>zl (by omega) (by omega);have w2:zW zI (a+2)=a+2:=zi (by omega) (by omega);rw[zF h4];simp only[zD,wb];generalize decide (ze s (a+1).toNat=0)=c1;generalize decide ((127:Int)<ze s (a+1).toNat)=c2;cases c1
   ·cases c2
    ·exact⟨_,rfl,λ_=>⟨by show a<zW zI (a+2);rw[w2];omega,by show zW zI (a+2)<=_;rw[w2];omega⟩⟩
    ·exact⟨_,rfl,λh=>by cases h⟩
   ·exact⟨_,rfl,λh=>by cases h⟩
theorem ahM(s:ByteArray)(hs:s.size<=9223372036854775000)(a:Int)(h0:0<=a)(h1:a<=s.size):∃r,Dg s a=some r/\(r.2.2=0->a<r.2.1/\r.2.1<=s.size/\0<=r.1/\r.1<=65535):=by
 unfold Dg zkn;rw[zF (by omega:¬a<0),zF (by omega:¬(s.size:Int)<a)];simp only[zD];by_cases he:a=(s.size:Int)
 ·rw[zT he];exact⟨_,rfl,λh=>by cases h⟩
 have wa:∀{R:Type} (x:Option R),zd a s.size x=x:=λx=>zl (by omega) (by omega);rw[zF he];simp only[zD,wa];obtain⟨x,hx⟩:=nb (xA s a.toNat);have sB:=x.2;have w1:zW zI (a+1)=a+1:=zi (by omega) (by omega);have w2:zW zI (x.1:Int)=(x.1:Int):=zi (by omega) (by omega);have w4:zW zI ((s.size:Int)-a)=(s.size:Int)-a:=zi (by omega) (by omega);have w7:zW zI ((x.1:Int)-127)=(x.1:Int)-127:=zi (by omega) (by omega);simp only[hx,w2,w1,w4,w7];by_cases h4:(x.1:Int)<128
 ·rw[zT h4];exact⟨_,rfl,λ_=>⟨by show a<a+1;omega,by show a+1<=_;omega,by show(0:Int)<=(x.1:Int);omega,by show(x.1:Int)<=65535;omega⟩⟩
 rw[zF h4];have h08:∀i,zn (ze s i):=xA s;by_cases h5:(x.1:Int)=129
 ·have wb:(s.size:Int)-a<(x.1:Int)-127\/∀{R:Type} (x:Option R),zd (a+1) s.size x=x:=by
   by_cases h:(s.size:Int)-a<(x.1:Int)-127
   ·exact .inl h
   ·exact .inr λx=>zl (by omega) (by omega)
  rw[zT h5];simp only[ab,zD,zC];by_cases h6:(s.size:Int)-a<(x.1:Int)-127
  ·rw[zT h6];exact⟨_,rfl,λh=>by cases h⟩
  ·have wb:∀{R:Type} (x:Option R),zd (a+1) s.size x=x:=λx=>zl (by omega) (by omega);have w8:zW zI (a+2)=a+2:=zi (by omega) (by omega);obtain⟨y,hy⟩:=nb (h08 (a+1).toNat);have hy2:=y.2;have w3:zW zI (y.1:Int)=(y.1:Int):=zi (by omega) (by omega);rw[zF h6];simp only[zD,wb,hy,w3,w8];generalize decide ((y.1:Int)<128)=c;cases c
   ·exact⟨_,rfl,λ_=>⟨by show a<a+2;omega,by show a+2<=_;omega,by show(0:Int)<=(y.1:Int);omega,by show(y.1:Int)<=65535;omega⟩⟩
   ·exact⟨_,rfl,λh=>by cases h⟩
 ·rw[zF h5];simp only[GW,zD,zC];by_cases h9:(x.1:Int)=130
  ·rw[zT h9];simp only[ab,zD];by_cases h6:(s.size:Int)-a<(x.1:Int)-127
   ·rw[zT h6];exact⟨_,rfl,λh=>by cases h⟩
   ·have wb:∀{R:Type} (x:Option R),zd (a+1) s.size x=x:=λx=>zl (by omega) (by omega);have w8:zW zI (a+2)=a+2:=zi (by omega) (by omega);have w9:zW zI (a+3)=a+3:=zi (by omega) (by omega);have wd:∀{R:Type} (x:Option R),zd (a+2) s.size x=x:=λx=>zl (by omega) (by omega);obtain⟨y,hy⟩:=nb (h08 (a+1).toNat);obtain⟨z,hz⟩:=nb (h08 (a+2).toNat);have hy2:=y.2;have hz2:=z.2;have w3:zW zI (y.1:Int)=(y.1:Int):=zi (by omega) (by omega);have Sv:zW zI (z.1:Int)=(z.1:Int):=zi (by omega) (by omega);have w5':zW zI (256*(y.1:Int))=256*(y.1:Int):=zi (by omega) (by omega);have w6':zW zI (256*(y.1:Int)+(z.1:Int))=256*(y.1:Int)+(z.1:Int):=zi (by omega) (by omega);rw[zF h6];simp only[zD,wb,w8,wd,hy,hz,w3,Sv,w5',w6',w9];generalize decide ((y.1:Int)=0)=c;cases c
    ·exact⟨_,rfl,λ_=>⟨by show a<a+3;omega,by show a+3<=_;omega,by show(0:Int)<=256*(y.1:Int)+(z.1:Int);omega,by show 256*(y.1:Int)+(z.1:Int)<=65535;omega⟩⟩
    ·exact⟨_,rfl,λh=>by cases h⟩
  ·rw[zF h9];exact⟨_,rfl,λh=>by cases h⟩
theorem zbr(b:ByteArray)(hb:b.size<=1099511627776):∀(n:Nat) (k:Nat) (t5:List aQ) (a:Int),0<=a->a<=b.size->(b.size:Int)-a<=n->n<k->t5.length+n<=2199023255552->∃r,FJ k b t5 a=some r
 |n,0,_,_,_,_,_,h,_=>by omega
 |n,k+1,t5,a,h0,h1,h2,h3,h4=>by
  unfold FJ zkp;by_cases ap:a<(b.size:Int)
  ·obtain⟨r1,e1,p1⟩:=ajc b (by omega) a h0 ap;rw[zT ap,e1,ir,zC];by_cases z1:r1.2.2=0
   ·obtain⟨q1,q2⟩:=p1 z1;obtain⟨r2,e2,p2⟩:=ahM b (by omega) r1.2.1 (by omega) q2;simp only[z1,decide_true,ab,zD];rw[e2,ir];by_cases z2:r2.2.2=0
    ·obtain⟨u1,u2,u3,u4⟩:=p2 z2;simp only[z2,decide_true,ab,zD];have w1:zW zI ((b.size:Int)-r2.2.1)=(b.size:Int)-r2.2.1:=zi (by omega) (by omega);have w2:zW zI (r2.2.1+r2.1)=r2.2.1+r2.1:=zi (by omega) (by omega);rw[w1,w2];by_cases z3:(b.size:Int)-r2.2.1<r2.1
     ·rw[zT z3];exact⟨_,rfl⟩
     ·rw[zF z3,zD,VK t5 (by rw[zj];omega),ir];generalize decide (r1.1∈t5.map λv=>v.1)=c;cases c with
      |true=>exact⟨_,rfl⟩
      |false=>
       rw[zD,zT (by omega:0<=r2.2.1+r2.1),zT (by omega:r2.2.1+r2.1<=(((b.size:Nat):Int))),zT (by omega:0<=r2.2.1),zT (by omega:r2.2.1<=(((r2.2.1+r2.1).toNat:Nat):Int)),zT (by simp;omega)];simp only[zC];obtain⟨n,rfl⟩:∃n',n=n'+1:=⟨n-1,by omega⟩
       exact zbr b hb n k _ _ (by omega) (by omega) (by omega) (by omega) (by simp;omega)
    ·simp only[z2,decide_false,GW,zC];exact⟨_,rfl⟩
   ·simp only[z1,decide_false,GW,zC];exact⟨_,rfl⟩
  ·rw[zF ap];exact⟨_,rfl⟩
theorem ztx(b:ByteArray)(hb:b.size<=1099511627776):∃r,Dh b=some r:=by unfold Dh zko;dsimp only;obtain⟨r,hr⟩:=zbr b hb b.size af [] 0 (by omega) (by omega) (by omega) (by rw[zo];omega) (by simp;omega);rw[hr,ir];cases r<;>exact⟨_,rfl⟩
@[irreducible] def bJ (s:Spec) (x:ByteArray):Int:=(kg s x).getD 0
theorem xB(s:Spec)(x:ByteArray)(hx:x.size<=1099511627776):kg s x=some (bJ s x):=by
 have:∃v,kg s x=some v:=by
  unfold kg OO;rw[xx,ir,zfl _ _ (by rw[zj];omega),ir];obtain⟨r,hr⟩:=ztx x hx;rw[hr,ir];generalize(!decide (bM s=0))=c1;generalize decide ((x.size:Int)<s.2.2.2.1)=c2;generalize decide (s.2.2.2.2.1<(x.size:Int))=c3;generalize decide ((0:Int)<=sR s.2.1 (bl x) 0)=c4;generalize decide (s.2.1=6)=c5;cases c1<;>cases c2<;>cases c3<;>cases c4<;>cases c5<;>first|exact⟨_,rfl⟩|skip
  cases r with
  |inl r=>simp only[zD,zC,zek];cases(!decide (r.2.1=0))<;>exact⟨_,rfl⟩
  |inr r=>simp only[zD,zC,zaA];cases(!decide (r.2.1=0))<;>exact⟨_,rfl⟩
 obtain⟨v,hv⟩:=this;unfold bJ;rw[hv];rfl
theorem ye(s:Spec)(x:ByteArray)(hx:x.size<=1099511627776):cf s x=some (bJ s x):=by rw[alZ s x (by omega),xB s x hx]
@[irreducible] def m9 (a b:Spec):Bool:=(xT a b).getD false
theorem zfw(a b:Spec):xT a b=some (m9 a b):=by
 have:∃v,xT a b=some v:=by unfold xT OP;rw[xx,xx,zfv];simp only[ir];generalize(!decide (bM a=0))=c1;generalize(!decide (bM b=0))=c2;generalize decide (b.2.2.2.1<a.2.2.2.1)=c3;generalize decide (a.2.2.2.2.1<b.2.2.2.2.1)=c4;generalize decide (a.2.1=5)=c5;generalize decide (a.2.1=6)=c6;generalize decide (b.2.1=6)=c7;cases c1<;>cases c2<;>cases c3<;>cases c4<;>cases c5<;>cases c6<;>cases c7<;>exact⟨_,rfl⟩
 obtain⟨v,hv⟩:=this;unfold m9;rw[hv];rfl
theorem ahE(a b:Spec):mN a b=some (m9 a b):=by rw[adJ,zfw]
abbrev aS:=Int×Int×Int×ByteArray×List bG×Unit
def aX(s:zg)(no:Int):Spec:=(gM s.2.2.1 no).getD dk
def bC(s:zg)(no:Int):Bool:=(gM s.2.2.1 no).isSome
theorem Cm(s:zg)(no:Int)(hl:s.2.2.1.length<=maxLen):gk s no=some (aX s no,bC s no):=by rw[z232 s no hl];unfold aX bC;cases gM s.2.2.1 no<;>rfl
theorem Fs(s:zg)(no:Int):(eX s.2.2.1 no 0= -1/\bC s no=false/\aX s no=dk)\/(0<=eX s.2.2.1 no 0/\eX s.2.2.1 no 0<s.2.2.1.length/\bC s no=true/\s.2.2.1.getD (eX s.2.2.1 no 0).toNat dk=aX s no):=by
 unfold bC aX;rcases ae8 s.2.2.1 no 0 (zaT _) with⟨h1,h2⟩|⟨h1,h2,x,h3,h4⟩
 ·left;rw[h2];exact⟨h1,rfl,rfl⟩
 ·right;rw[h3];rw[Int.sub_zero] at h4;exact⟨h1,by omega,rfl,h4⟩
def dQ(r:aS)(a b:zg):Bool:=
 (bif decide (r.1=3) then !decide (r.2.1=0) else !bC a r.2.1)||(bif decide (r.1=2) then !decide (r.2.2.1=0) else !bC b r.2.2.1)
def j6(r:aS):Bool:=(!decide (r.2.2.2.1=bs [])&& !decide (r.1=3))||(decide (0<(r.2.2.2.2.1.length:Int))&& !decide (r.1=5))
def kx(s:Spec):Bool:=decide (s.2.1=1)&&decide (s.2.2.1=1)
def gj:List bG->Spec->Spec->Int
 | [],_,_=>0
 |p::r,x,y=>bif !decide (bJ x p.1=0) then bJ x p.1 else bif !decide (bJ y p.2.1=0) then bJ y p.2.1 else gj r x y
def zmn(l:List bG)(x y:Spec):Int:=bif(!decide ((FN l).1=0)||decide ((l.length:Int)=0)) then 15 else gj l x y
def lr(r:aS)(x y:Spec):Int:=
 bif decide (r.1=1) then(bif m9 y x then 0 else 6) else bif decide (r.1=3) then bJ y r.2.2.2.1 else bif decide (r.1=4) then(bif kx x&&kx y then 0 else 6) else bif decide (r.1=5) then zmn r.2.2.2.2.1 x y else 0
def dS(r:aS)(a b:zg):Int:=
 bif decide (r.1<1)||decide (5<r.1) then 1 else bif dQ r a b then 9 else bif j6 r then 3 else lr r (aX a r.2.1) (aX b r.2.2.1)
structure eZ(l:List bG):Prop where
 len:l.length<=1000000
 sz:∀p∈l,p.1.size<=1099511627776/\p.2.1.size<=1099511627776
structure eH(r:aS):Prop where
 text:r.2.2.2.1.size<=1099511627776
 fj:eZ r.2.2.2.2.1
theorem apy(r:aS)(a b:zg)(ha:a.2.2.1.length<=maxLen)(hb:b.2.2.1.length<=maxLen):vH r a b=some (aX a r.2.1,aX b r.2.2.1,bif dQ r a b then 9 else 0):=by unfold vH zqt dQ;rw[Cm a _ ha,Cm b _ hb];simp only[ir];generalize decide (r.1=3)=k3;generalize decide (r.1=2)=k2;generalize decide (r.2.1=0)=z1;generalize decide (r.2.2.1=0)=z2;generalize bC a r.2.1=h1;generalize bC b r.2.2.1=h2;cases k3<;>cases k2<;>cases z1<;>cases z2<;>cases h1<;>cases h2<;>rfl
theorem aiK(s:Spec):kf s=some (kx s):=by unfold kf zqu kx;generalize decide (s.2.1=1)=c1;generalize decide (s.2.2.1=1)=c2;cases c1<;>cases c2<;>rfl
def A7(v:Int):Sum Int Unit:=if v=0 then .inr () else .inl v
theorem US(x y:Spec):∀(l:List bG) (i:Int),(∀p∈l,p.1.size<=1099511627776/\p.2.1.size<=1099511627776)->
 aV (λi (p:bG) (s:Unit) K=>((cf x p.1).bind λr2=>(bif(!decide (r2=0)) then some (Sum.inl r2) else((cf y p.2.1).bind λr3=>(bif(!decide (r3=0)) then some (Sum.inl r3) else K s))))) (λ_=>some (Sum.inr ())) l i ()=some (A7 (gj l x y))
 | [],i,_=>rfl
 |p::r,i,h=>by
  obtain⟨h1,h2⟩:=h p IS;simp only[aV,gj];rw[ye x p.1 h1,ir];by_cases z1:bJ x p.1=0
  ·rw[zT z1];simp only[ab,zD];rw[ye y p.2.1 h2,ir];by_cases z2:bJ y p.2.1=0
   ·rw[zT z2];simp only[ab,zD];exact US x y r (i+1) λq hq=>h q (Cs _ hq)
   ·rw[zF z2];simp only[GW,zC,A7,if_neg z2]
  ·rw[zF z1];simp only[GW,zC,A7,if_neg z1]
theorem am1(l:List bG)(x y:Spec)(h:eZ l):nA l x y=some (zmn l x y):=by
 have hl:=h.len;unfold nA zqw zmn;dsimp only;rw[acY l (by rw[zj];omega),ir];cases(!decide ((FN l).1=0)) with
 |true=>rfl
 |false=>
  cases decide ((l.length:Int)=0) with
  |true=>rfl
  |false=>
   simp only[zD,zb2];have:=cn jY l (by rw[zj];omega) (λi (p:bG) (s:Unit) K=>((cf x p.1).bind λr2=>(bif(!decide (r2=0)) then some (Sum.inl r2) else((cf y p.2.1).bind λr3=>(bif(!decide (r3=0)) then some (Sum.inl r3) else K s))))) (λ_=>some (Sum.inr ()))
    (λk i s=>ze0 k l (l.length:Int) i x y) (λk i s=>rfl) ()
   rw[this,US x y l 0 h.sz,ir];unfold A7;by_cases z:gj l x y=0
   ·rw[if_pos z,z];rfl
   ·rw[if_neg z];rfl
theorem adH(r:aS)(a b:zg)(h:eH r)(ha:a.2.2.1.length<=maxLen)(hb:b.2.2.1.length<=maxLen):pq r a b=some (dS r a b):=by
 unfold pq zqs dS lr j6;rw[apy r a b ha hb];simp only[ir,ahE,ye _ _ h.text,aiK,am1 _ _ _ h.fj];generalize dQ r a b=e;generalize decide (r.1<1)=c1;generalize decide ((5:Int)<r.1)=c2;generalize decide (r.2.2.2.1=bs [])=t;generalize decide ((0:Int)<(r.2.2.2.2.1.length:Int))=p;generalize decide (r.1=1)=k1;generalize decide (r.1=3)=k3;generalize decide (r.1=4)=k4;generalize decide (r.1=5)=k5;generalize kx (aX a r.2.1)=p1;generalize kx (aX b r.2.2.1)=p2;generalize m9 (aX b r.2.2.1) (aX a r.2.1)=w;cases c1<;>cases c2<;>first|rfl|skip
 cases e<;>first|rfl|skip
 cases t<;>cases p<;>cases k3<;>cases k5<;>first|rfl|skip
 all_goals(cases k1<;>cases k4<;>cases p1<;>cases p2<;>cases w<;>rfl)
def ox(v:Int):Sum Unit Int:=if v=0 then .inl () else .inr v
theorem Tp(x y:Spec):∀(l:List bG) (i:Int),(∀p∈l,p.1.size<=1099511627776/\p.2.1.size<=1099511627776)->
 aV (λi (p:bG) (s:Unit) K=>((kg x p.1).bind λr2=>(bif(!decide (r2=0)) then some (Sum.inr r2) else((kg y p.2.1).bind λr3=>(bif(!decide (r3=0)) then some (Sum.inr r3) else K s))))) (λ_=>some (Sum.inl ())) l i ()=some (ox (gj l x y))
 | [],i,_=>rfl
 |p::r,i,h=>by
  obtain⟨h1,h2⟩:=h p IS;simp only[aV,gj];rw[xB x p.1 h1,ir];by_cases z1:bJ x p.1=0
  ·rw[zT z1];simp only[ab,zD];rw[xB y p.2.1 h2,ir];by_cases z2:bJ y p.2.1=0
   ·rw[zT z2];simp only[ab,zD];exact Tp x y r (i+1) λq hq=>h q (Cs _ hq)
   ·rw[zF z2];simp only[GW,zC,ox,if_neg z2]
  ·rw[zF z1];simp only[GW,zC,ox,if_neg z1]
theorem adr(r:aS)(a b:zg)(h:eH r)(i k:Int)(Gv:0<=i)(hi:i<a.2.2.1.length)(EI:0<=k)(hk:k<b.2.2.1.length):
 yl af i k 0 r a b=some (ox (gj r.2.2.2.2.1 (a.2.2.1.getD i.toNat dk) (b.2.2.1.getD k.toNat dk))):=by
 have hl:=h.fj.len;have:=gf jY r.2.2.2.2.1 (by rw[zj];omega) (λj (p:bG) (s:Unit) K=>((kg (a.2.2.1.getD i.toNat dk) p.1).bind λr2=>(bif(!decide (r2=0)) then some (Sum.inr r2) else((kg (b.2.2.1.getD k.toNat dk) p.2.1).bind λr3=>(bif(!decide (r3=0)) then some (Sum.inr r3) else K s))))) (λ_=>some (Sum.inl ()))
  (λf j s=>yl f i k j r a b) (λf j s h0 h1=>by
    show yl (f+1) i k j r a b=_
    conv=>lhs;unfold yl Zl zfq zfr zfs
    have wi:∀{R:Type} (x:Option R),zd i a.2.2.1.length x=x:=λx=>zl Gv hi;have wk:∀{R:Type} (x:Option R),zd k b.2.2.1.length x=x:=λx=>zl EI hk;have wj:∀{R:Type} (x:Option R),zd j r.2.2.2.2.1.length x=x:=λx=>zl h0 h1;rw[zT h1];simp only[zC,wi,wk,wj];rfl) (λf s=>by
    show yl (f+1) i k r.2.2.2.2.1.length r a b=_
    conv=>lhs;unfold yl Zl
    rw[zF (by omega),zD]) ()
 rw[this];exact Tp _ _ _ 0 h.fj.sz
theorem aey(r:aS)(a b:zg)(h:eH r)(ha:a.2.2.1.length<=maxLen)(hb:b.2.2.1.length<=maxLen):va r a b=some (dS r a b):=by
 unfold va N3;have h0:∀t,Hy t r a b=bif t then some 1 else zno r a b:=λt=>by cases t<;>rfl
 simp only[h0];unfold dS;by_cases c1:r.1<1
 ·rw[zT c1];rfl
 by_cases c2:(5:Int)<r.1
 ·rw[zF c1,zT c2];rfl
 rw[zF c1,zF c2];simp only[zD,zb2];have e2:∀i k t,Fw i k t r a b=bif t then some 9 else ZD i k r a b:=λi k t=>by cases t<;>rfl
 have e4:∀i k t,Hz i k t r a b=bif t then some 9 else Mg i k r a b:=λi k t=>by cases t<;>rfl
 have e6:∀i k t,HA i k t r a b=bif t then some 3 else ZE i k r a b:=λi k t=>by cases t<;>rfl
 have e9:∀t,HB t=some (bif t then 6 else 0):=λt=>by cases t<;>rfl
 have hi:=Fs a r.2.1;have hk:=Fs b r.2.2.1;have ei:decide (eX a.2.2.1 r.2.1 0<0)= !bC a r.2.1:=by
  rcases hi with⟨h1,h2,_⟩|⟨h1,_,h2,_⟩
  ·rw[h1,h2];rfl
  ·rw[h2,zF (by omega)];rfl
 have ek:decide (eX b.2.2.1 r.2.2.1 0<0)= !bC b r.2.2.1:=by
  rcases hk with⟨h1,h2,_⟩|⟨h1,_,h2,_⟩
  ·rw[h1,h2];rfl
  ·rw[h2,zF (by omega)];rfl
 unfold zno N4;rw[Fq a _ ha,ir,Fq b _ hb,ir];generalize Rl:eX a.2.2.1 r.2.1 0=i at*;generalize hkk:eX b.2.2.1 r.2.2.1 0=k at*;have s3:ZD i k r a b=bif(bif decide (r.1=2) then !decide (r.2.2.1=0) else !bC b r.2.2.1) then some 9 else Mg i k r a b:=by unfold ZD N5;simp only[e4,ek];generalize decide (r.1=2)=k2;generalize decide (r.2.2.1=0)=z;generalize bC b r.2.2.1=hh;cases k2<;>cases z<;>cases hh<;>rfl
 have s1:(bif decide (r.1=3) then bif !decide (r.2.1=0) then Fw i k true r a b else bif !decide (r.1=3) then Fw i k (decide (i<0)) r a b else Fw i k false r a b
  else bif !decide (r.1=3) then Fw i k (decide (i<0)) r a b else Fw i k false r a b)=bif dQ r a b then some 9 else Mg i k r a b:=by
  simp only[e2,s3,ei];unfold dQ;generalize decide (r.1=3)=k3;generalize decide (r.2.1=0)=z;generalize bC a r.2.1=hh;generalize(bif decide (r.1=2) then !decide (r.2.2.1=0) else !bC b r.2.2.1)=w;cases k3<;>cases z<;>cases hh<;>cases w<;>rfl
 have s5:Mg i k r a b=bif j6 r then some 3 else ZE i k r a b:=by unfold Mg N6 j6;simp only[e6];generalize decide (r.2.2.2.1=bs [])=t;generalize decide ((0:Int)<(r.2.2.2.2.1.length:Int))=p;generalize decide (r.1=3)=k3;generalize decide (r.1=5)=k5;cases t<;>cases p<;>cases k3<;>cases k5<;>rfl
 refine Eq.trans s1 ?_;cases hE:dQ r a b with
 |true=>rfl
 |false=>
  rw[zD,zD,s5];cases j6 r with
  |true=>rfl
  |false=>
   rw[zD,zD];unfold ZE N7 lr;have g1:r.1=1\/r.1=4\/r.1=5->bC a r.2.1=true:=λhr=>by
    unfold dQ at hE;rw[zF (by omega:¬r.1=3)] at hE;cases hh:bC a r.2.1 with
    |true=>rfl
    |false=>rw[hh] at hE;simp at hE
   have g2:r.1≠2->bC b r.2.2.1=true:=λhr=>by
    unfold dQ at hE;rw[zF hr] at hE;cases hh:bC b r.2.2.1 with
    |true=>rfl
    |false=>rw[hh] at hE;simp at hE
   have hA:bC a r.2.1=true->0<=i/\i<a.2.2.1.length/\a.2.2.1.getD i.toNat dk=aX a r.2.1:=λhh=>by
    rcases hi with⟨_,h2,_⟩|⟨h1,h2,_,h3⟩
    ·rw[h2] at hh;cases hh
    ·exact⟨h1,h2,h3⟩
   have hB:bC b r.2.2.1=true->0<=k/\k<b.2.2.1.length/\b.2.2.1.getD k.toNat dk=aX b r.2.2.1:=λhh=>by
    rcases hk with⟨_,h2,_⟩|⟨h1,h2,_,h3⟩
    ·rw[h2] at hh;cases hh
    ·exact⟨h1,h2,h3⟩
   by_cases k1:r.1=1
   ·obtain⟨a1,a2,a3⟩:=hA (g1 (.inl k1));obtain⟨b1,b2,b3⟩:=hB (g2 (by omega));rw[zT k1,zC,zC,zl b1 b2,zl a1 a2,a3,b3,zfw,ir];cases m9 (aX b r.2.2.1) (aX a r.2.1)<;>rfl
   rw[zF k1,zD,zD];by_cases k3:r.1=3
   ·obtain⟨b1,b2,b3⟩:=hB (g2 (by omega));rw[zT k3,zC,zC,zl b1 b2,b3,xB _ _ h.text];rfl
   rw[zF k3,zD,zD];by_cases k4:r.1=4
   ·obtain⟨a1,a2,a3⟩:=hA (g1 (.inr (.inl k4)));obtain⟨b1,b2,b3⟩:=hB (g2 (by omega));rw[zT k4,zC,zC,zl a1 a2,zl b1 b2];simp only[a3,b3,e9];unfold kx;generalize decide ((aX a r.2.1).2.1=1)=d1;generalize decide ((aX a r.2.1).2.2.1=1)=d2;generalize decide ((aX b r.2.2.1).2.1=1)=d3;generalize decide ((aX b r.2.2.1).2.2.1=1)=d4;cases d1<;>cases d2<;>cases d3<;>cases d4<;>rfl
   rw[zF k4,zD,zD];by_cases k5:r.1=5
   ·obtain⟨a1,a2,a3⟩:=hA (g1 (.inr (.inr k5)));obtain⟨b1,b2,b3⟩:=hB (g2 (by omega));have Nn:∀t,zu2 i k t r a b=bif t then some 15 else Zk i k r a b:=λt=>by cases t<;>rfl
    have Np:Zk i k r a b=some (gj r.2.2.2.2.1 (aX a r.2.1) (aX b r.2.2.1)):=by
     unfold Zk zfp;dsimp only;rw[adr r a b h i k a1 a2 b1 b2,ir,a3,b3];unfold ox;by_cases z:gj r.2.2.2.2.1 (aX a r.2.1) (aX b r.2.2.1)=0
     ·rw[if_pos z,z];rfl
     ·rw[if_neg z];rfl
    have hl:=h.fj.len;rw[zT k5,zC,zC,aex _ (by rw[zj];omega),ir];simp only[Nn,Np];unfold zmn;generalize(!decide ((FN r.2.2.2.2.1).1=0))=d1;generalize decide ((r.2.2.2.2.1.length:Int)=0)=d2;cases d1<;>cases d2<;>rfl
   ·rw[zF k5];rfl
@[irreducible] def xp (x:ByteArray):Int:=((Dh x).map λr=>GB (λ(w:al×Int×Int)=>w.2.1) (λ(w:al×Int×Int)=>w.2.1) r).getD 0
theorem NZ(s:Spec)(x:ByteArray)(hx:x.size<=1099511627776):bJ s x=0↔bM s=0/\s.2.2.2.1<=(x.size:Int)/\(x.size:Int)<=s.2.2.2.2.1/\(bl x).all (kC s.2.1)=true/\(s.2.1=6->xp x=0):=by
 have h:=xB s x hx;unfold kg OO at h;rw[xx,ir,zfl _ _ (by rw[zj];omega),ir] at h;obtain⟨r,hr⟩:=ztx x hx;have ht:xp x=GB (λ(w:al×Int×Int)=>w.2.1) (λ(w:al×Int×Int)=>w.2.1) r:=by unfold xp;rw[hr];rfl
 rw[hr,ir] at h;by_cases c1:bM s=0
 ·rw[zT c1,ab,zD] at h;by_cases c2:(x.size:Int)<s.2.2.2.1
  ·rw[zT c2,zC] at h;have:=zaE h;exact⟨λe=>by omega,λe=>by omega⟩
  rw[zF c2,zD] at h;by_cases c3:s.2.2.2.2.1<(x.size:Int)
  ·rw[zT c3,zC] at h;have:=zaE h;exact⟨λe=>by omega,λe=>by omega⟩
  rw[zF c3,zD] at h;have hf:=ztb s.2.1 (bl x) 0 (zaT _);by_cases c4:(0:Int)<=sR s.2.1 (bl x) 0
  ·rw[zT c4,zC] at h;have:=zaE h;exact⟨λe=>by omega,λe=>absurd e.2.2.2.1 (hf.1 c4)⟩
  rw[zF c4,zD] at h;have c8:(bl x).all (kC s.2.1)=true:=by
   cases hq:(bl x).all (kC s.2.1) with
   |true=>rfl
   |false=>exact absurd (hf.2 (by rw[hq];decide)) c4
  by_cases c5:s.2.1=6
  ·rw[zT c5,zC] at h;have key:(bif(!decide (xp x=0)) then some (13:Int) else some 0)=some (bJ s x):=by
    rw[<-h];cases r with
    |inl r=>rw[zek] at ht⊢;rw[<-ht]
    |inr r=>rw[zaA] at ht⊢;rw[<-ht]
   by_cases c6:xp x=0
   ·rw[zT c6] at key;have:=zaE key;exact⟨λ_=>⟨c1,by omega,by omega,c8,λ_=>c6⟩,λ_=>this.symm⟩
   ·rw[zF c6] at key;have:=zaE key;exact⟨λe=>by omega,λe=>absurd (e.2.2.2.2 c5) c6⟩
  ·rw[zF c5,zD] at h;have:=zaE h;exact⟨λ_=>⟨c1,by omega,by omega,c8,λe=>absurd e c5⟩,λ_=>this.symm⟩
 ·rw[zF c1,GW,zC] at h;have:=zaE h;exact⟨λe=>by omega,λe=>absurd e.1 c1⟩
theorem ana(a b:Spec):m9 a b=true↔bM a=0/\bM b=0/\a.2.2.2.1<=b.2.2.2.1/\b.2.2.2.2.1<=a.2.2.2.2.1/\(a.2.1=5\/(a.2.1=6/\b.2.1=6)\/(a.2.1≠5/\a.2.1≠6/\b.2.1≠6/\CS a.2.1 b.2.1=true)):=by
 have h:=zfw a b;unfold xT OP at h;rw[xx,xx,zfv] at h;simp only[ir] at h;by_cases c1:bM a=0
 ·rw[zT c1,ab,zD] at h;by_cases c2:bM b=0
  ·rw[zT c2,ab,zD] at h;by_cases c3:b.2.2.2.1<a.2.2.2.1
   ·rw[zT c3,zC] at h;have:=zaE h;exact⟨λe=>(by rw[e] at this;cases this),λe=>by omega⟩
   rw[zF c3,zD] at h;by_cases c4:a.2.2.2.2.1<b.2.2.2.2.1
   ·rw[zT c4,zC] at h;have:=zaE h;exact⟨λe=>(by rw[e] at this;cases this),λe=>by omega⟩
   rw[zF c4,zD] at h;by_cases c5:a.2.1=5
   ·rw[zT c5,zC] at h;have:=zaE h;exact⟨λ_=>⟨c1,c2,by omega,by omega,.inl c5⟩,λ_=>this.symm⟩
   rw[zF c5,zD] at h;by_cases c6:a.2.1=6
   ·rw[zT c6,zC] at h;have:=zaE h;rw[<-this,decide_eq_true_eq];exact⟨λe=>⟨c1,c2,by omega,by omega,.inr (.inl ⟨c6,by omega⟩)⟩,λe=>by omega⟩
   rw[zF c6,zD] at h;by_cases c7:b.2.1=6
   ·rw[zT c7,zC] at h;have:=zaE h;rw[<-this,decide_eq_true_eq];exact⟨λe=>by omega,λe=>by omega⟩
   rw[zF c7,zD] at h;have:=zaE h;rw[<-this];refine⟨λe=>⟨c1,c2,by omega,by omega,.inr (.inr ⟨c5,c6,c7,e⟩)⟩,λe=> ?_⟩;rcases e.2.2.2.2 with e|e|e
   ·exact absurd e c5
   ·exact absurd e.1 c6
   ·exact e.2.2.2
  ·rw[zF c2,GW,zC] at h;have:=zaE h;exact⟨λe=>(by rw[e] at this;cases this),λe=>absurd e.2.1 c2⟩
 ·rw[zF c1,GW,zC] at h;have:=zaE h;exact⟨λe=>(by rw[e] at this;cases this),λe=>absurd e.1 c1⟩
theorem ztu{s:Spec}(h:bM s=0):(2<=s.1/\s.1<=128)/\(1<=s.2.1/\s.2.1<=6)/\(1<=s.2.2.1/\s.2.2.1<=3)/\(1<=s.2.2.2.1/\s.2.2.2.1<=s.2.2.2.2.1/\s.2.2.2.2.1<=999)/\(s.2.2.1=1->s.2.2.2.1=s.2.2.2.2.1)/\¬(s.2.2.1=1/\s.2.1=6):=by
 unfold bM at h;split at h
 ·omega
 split at h
 ·omega
 split at h
 ·omega
 split at h
 ·omega
 split at h
 ·omega
 ·omega
theorem ap2:∀a b:Fin 7,CS (a.1:Int) (b.1:Int)=true->a.1≠5->a.1≠6->b.1≠6->(a.1=b.1\/(a.1=3/\(b.1=1\/b.1=2))\/(a.1=4/\(b.1=1\/b.1=2\/b.1=3))):=by decide+kernel
theorem ajn{a b:Int}(h:CS a b=true)(h5:a≠5)(h6:a≠6)(h7:b≠6):a=b\/(a=3/\(b=1\/b=2))\/(a=4/\(b=1\/b=2\/b=3)):=by
 have hr:1<=a/\a<=6/\1<=b/\b<=6:=by unfold CS at h;rw[nd,decide_eq_true_eq] at h;exact h.1
 obtain⟨x,rfl⟩:=Cb ⟨hr.1,hr.2.1⟩;obtain⟨y,rfl⟩:=Cb ⟨hr.2.2.1,hr.2.2.2⟩;have:=ap2 x y h (by omega) (by omega) (by omega);omega
theorem amC{a b x:Int}(h:a=b\/(a=3/\(b=1\/b=2))\/(a=4/\(b=1\/b=2\/b=3)))(hx:kC b x=true):kC a x=true:=by
 rcases h with rfl|⟨rfl,rfl|rfl⟩|⟨rfl,rfl|rfl|rfl⟩
 ·exact hx
 all_goals
  simp [kC] at hx⊢;omega
theorem amB(x:Int):kC 5 x=true:=by simp [kC]
theorem afy{y x:Spec}{t:ByteArray}(ht:t.size<=1099511627776)(hw:m9 y x=true)(hv:bJ x t=0):bJ y t=0:=by
 obtain⟨w1,w2,w3,w4,w5⟩:=(ana y x).1 hw;obtain⟨v1,v2,v3,v4,v5⟩:=(NZ x t ht).1 hv;refine(NZ y t ht).2 ⟨w1,by omega,by omega,?_,?_⟩
 ·rcases w5 with e|e|e
  ·rw[e,OF];exact λb _=>amB b
  ·rw[e.1,<-e.2];exact v4
  ·rw[OF] at v4⊢;exact λb hb=>amC (ajn e.2.2.2 e.1 e.2.1 e.2.2.1) (v4 b hb)
 ·intro e6;rcases w5 with e|e|e
  ·omega
  ·exact v5 e.2
  ·exact absurd e6 e.2.1
theorem apH:kC 1=cD:=by funext b;simp [kC,cD]
theorem apg(l:List Int):l.all (kC 1)=bE l:=by rw[apH];rfl
theorem XJ{t:ByteArray}{w:Int}(h:(fJ t w).2=true):1<=w/\w<=999/\(((fJ t w).1).size:Int)=w/\bE (bl (fJ t w).1)=true:=by
 by_cases hc:1<=t.size/\t.size<=999/\bE (bl t)=true/\1<=w/\w<=999
 ·rw[LP hc] at h⊢;by_cases h4:(t.size:Int)<=w
  ·rw[zT h4,zC];have hd:bE (so (w-t.size).toNat 48++bl t)=true:=by
    have e:bE (so (w-t.size).toNat 48++bl t)=(bE (so (w-t.size).toNat 48)&&bE (bl t)):=zgA ..;have e2:bE (so (w-t.size).toNat 48)=true:=by rw[bE,OF];intro x hx;rw[(zeW.1 hx).2];rfl
    rw[e,e2,hc.2.2.1];rfl
   refine⟨hc.2.2.2.1,hc.2.2.2.2,?_,?_⟩
   ·rw[lV,th,zbY,zf];omega
   ·rw[ue (Vw hd)];exact hd
  ·rw[zF h4,zD] at h⊢;cases hz:gl ((bl t).take (t.size-w.toNat)) with
   |false=>rw[hz] at h;cases h
   |true=>
    rw[zC];have hd:bE ((bl t).drop (t.size-w.toNat))=true:=by rw[bE,OF];intro x hx;exact OF.1 hc.2.2.1 x (zb1 hx)
    refine⟨hc.2.2.2.1,hc.2.2.2.2,?_,?_⟩
    ·rw[lV,zaD,zf];omega
    ·rw[ue (Vw hd)];exact hd
 ·rw[xL hc] at h;cases h
theorem aff{s:Spec}(h:kx s=true):s.2.1=1/\s.2.2.1=1:=by unfold kx at h;rw[nd,decide_eq_true_eq,decide_eq_true_eq] at h;exact h
abbrev pX:aQ:=(0,bs [],())
def zz(r:aS)(b:zg)(t:ByteArray):aQ×Int:=
 bif decide (r.1=1) then((r.2.2.1,t,()),0) else bif decide (r.1=2) then(pX,0) else bif decide (r.1=3) then((r.2.2.1,r.2.2.2.1,()),0)
 else bif decide (r.1=4) then(bif !bC b r.2.2.1 then(pX,9) else bif !(fJ t (aX b r.2.2.1).2.2.2.1).2 then(pX,5) else((r.2.2.1,(fJ t (aX b r.2.2.1).2.2.2.1).1,()),0))
 else bif decide (r.1=5) then(bif !(zt r.2.2.2.2.1 t).2 then(pX,15) else((r.2.2.1,(zt r.2.2.2.2.1 t).1,()),0)) else(pX,1)
theorem adG(r:aS)(b:zg)(t:ByteArray)(hp:r.2.2.2.2.1.length<=maxLen)(hb:b.2.2.1.length<=maxLen)(ht:t.size<=maxLen):po r b t=some (zz r b t):=by unfold po zqr zz;rw[Cm b _ hb,ir,ap4 t _ ht,ir,acX _ _ hp,ir];generalize decide (r.1=1)=k1;generalize decide (r.1=2)=k2;generalize decide (r.1=3)=k3;generalize decide (r.1=4)=k4;generalize decide (r.1=5)=k5;generalize bC b r.2.2.1=h;generalize fJ t (aX b r.2.2.1).2.2.2.1=p;generalize zt r.2.2.2.2.1 t=q;obtain⟨p1,p2⟩:=p;obtain⟨q1,q2⟩:=q;cases k1<;>cases k2<;>cases k3<;>cases k4<;>cases k5<;>cases h<;>cases p2<;>cases q2<;>rfl
theorem zgf{s:zg}{no:Int}(h:bC s no=true):aX s no∈s.2.2.1/\(aX s no).1=no:=by
 unfold bC at h;unfold aX;cases hf:gM s.2.2.1 no with
 |none=>rw[hf] at h;cases h
 |some x=>unfold gM at hf;exact⟨zaV hf,by simpa using List.find?_some hf⟩
theorem zc7{s:zg}(h:jw s){no:Int}(hh:bC s no=true):bM (aX s no)=0:=h.2.2.2.1 _ (zgf hh).1
theorem zfy{l:List bG}{t:ByteArray}(h:(zt l t).2=true):∃p∈l,p.1=t/\(zt l t).1=p.2.1:=by
 unfold zt at h⊢;cases hf:l.find? λp=>decide (p.1=t) with
 |none=>rw[hf] at h;cases h
 |some p=>exact⟨p,zaV hf,by simpa using List.find?_some hf,rfl⟩
theorem U2:∀{l:List bG} {x y:Spec},gj l x y=0->∀p∈l,bJ x p.1=0/\bJ y p.2.1=0
 | [],x,y,h,p,hp=>by cases hp
 |q::l,x,y,h,p,hp=>by
  unfold gj at h;by_cases h1:bJ x q.1=0
  ·rw[zT h1,ab,zD] at h;by_cases h2:bJ y q.2.1=0
   ·rw[zT h2,ab,zD] at h;rcases If.1 hp with rfl|hp
    ·exact⟨h1,h2⟩
    ·exact U2 h p hp
   ·rw[zF h2,GW,zC] at h;exact absurd h h2
  ·rw[zF h1,GW,zC] at h;exact absurd h h1
theorem z9i{r:aS}{a b:zg}(h:dS r a b=0):(1<=r.1/\r.1<=5)/\dQ r a b=false/\j6 r=false/\lr r (aX a r.2.1) (aX b r.2.2.1)=0:=by
 unfold dS at h;by_cases c1:r.1<1
 ·rw[zT c1] at h;cases h
 by_cases c2:5<r.1
 ·rw[zT c2,Bool.or_true] at h;cases h
 rw[zF c1,zF c2,zb2,zD] at h;cases he:dQ r a b with
 |true=>rw[he] at h;cases h
 |false=>
  rw[he,zD] at h;cases ht:j6 r with
  |true=>rw[ht] at h;cases h
  |false=>rw[ht,zD] at h;exact⟨by omega,rfl,rfl,h⟩
theorem zln{r:aS}{a b:zg}(h:dQ r a b=false):(r.1=3->r.2.1=0)/\(r.1≠3->bC a r.2.1=true)/\(r.1=2->r.2.2.1=0)/\(r.1≠2->bC b r.2.2.1=true):=by
 unfold dQ at h;rw[Bool.or_eq_false_iff] at h;obtain⟨h1,h2⟩:=h;refine⟨λe=> ?_,λe=> ?_,λe=> ?_,λe=> ?_⟩
 ·rw[zT e,zC] at h1;simpa using h1
 ·rw[zF e,zD] at h1;simpa using h1
 ·rw[zT e,zC] at h2;simpa using h2
 ·rw[zF e,zD] at h2;simpa using h2
theorem ad2{r:aS}{a b:zg}{t:ByteArray}(ht:t.size<=1099511627776)(hr:eH r)(hc:dS r a b=0)(hb:jw b)(hv:bC a r.2.1=true->bJ (aX a r.2.1) t=0):
 ((zz r b t).2≠0->((r.1=4/\(zz r b t).2=5)\/(r.1=5/\(zz r b t).2=15))/\(zz r b t).1=pX)/\
 ((zz r b t).2=0->(r.1=2->(zz r b t).1=pX)/\(r.1≠2->(zz r b t).1.1=r.2.2.1/\bC b r.2.2.1=true/\bJ (aX b r.2.2.1) (zz r b t).1.2.1=0)):=by
 obtain⟨c1,c2,c3,c4⟩:=z9i hc;obtain⟨e1,e2,e3,e4⟩:=zln c2;unfold lr at c4;have hk:r.1=1\/r.1=2\/r.1=3\/r.1=4\/r.1=5:=by omega
 unfold zz;rcases hk with k|k|k|k|k
 ·rw[zT k,zC] at c4⊢;refine⟨λh=>absurd rfl h,λ_=>⟨λe=>by omega,λ_=>⟨rfl,e4 (by omega),?_⟩⟩⟩;cases hw:m9 (aX b r.2.2.1) (aX a r.2.1) with
  |false=>rw[hw] at c4;cases c4
  |true=>exact afy ht hw (hv (e2 (by omega)))
 ·rw[zF (by omega:¬r.1=1),zT k,zD,zC];exact⟨λh=>absurd rfl h,λ_=>⟨λ_=>rfl,λe=>absurd k e⟩⟩
 ·rw[zF (by omega:¬r.1=1),zT k,zD,zC] at c4;rw[zF (by omega:¬r.1=1),zF (by omega:¬r.1=2),zT k,zD,zD,zC];exact⟨λh=>absurd rfl h,λ_=>⟨λe=>by omega,λ_=>⟨rfl,e4 (by omega),c4⟩⟩⟩
 ·rw[zF (by omega:¬r.1=1),zF (by omega:¬r.1=3),zT k,zD,zD,zC] at c4;rw[zF (by omega:¬r.1=1),zF (by omega:¬r.1=2),zF (by omega:¬r.1=3),zT k,zD,zD,zD,zC,e4 (by omega),ab,zD];have hy:=zc7 hb (e4 (by omega));have hpd:kx (aX b r.2.2.1)=true:=by
   cases hp:(kx (aX a r.2.1)&&kx (aX b r.2.2.1)) with
   |false=>rw[hp] at c4;cases c4
   |true=>exact(Bool.and_eq_true_iff.1 hp).2
  obtain⟨y1,y2⟩:=aff hpd;obtain⟨_,_,_,f4,f5,_⟩:=ztu hy;cases hp:(fJ t (aX b r.2.2.1).2.2.2.1).2 with
  |false=>exact⟨λ_=>⟨.inl ⟨k,rfl⟩,rfl⟩,λe=>by cases e⟩
  |true=>
   obtain⟨p1,p2,p3,p4⟩:=XJ hp;rw[ab,zD];refine⟨λh=>absurd rfl h,λ_=>⟨λe=>by omega,λ_=>⟨rfl,rfl,?_⟩⟩⟩;have:=f5 y2;refine(NZ _ _ (by show(fJ t (aX b r.2.2.1).2.2.2.1).1.size<=1099511627776;omega)).2 ⟨hy,?_,?_,?_,λe=>by omega⟩
   ·show _<=((fJ t (aX b r.2.2.1).2.2.2.1).1.size:Int);omega
   ·show((fJ t (aX b r.2.2.1).2.2.2.1).1.size:Int)<=_;omega
   ·rw[y1,apg];exact p4
 ·rw[zF (by omega:¬r.1=1),zF (by omega:¬r.1=3),zF (by omega:¬r.1=4),zT k,zD,zD,zD,zC] at c4;rw[zF (by omega:¬r.1=1),zF (by omega:¬r.1=2),zF (by omega:¬r.1=3),zF (by omega:¬r.1=4),zT k,zD,zD,zD,zD,zC];unfold zmn at c4;cases hp:(zt r.2.2.2.2.1 t).2 with
  |false=>exact⟨λ_=>⟨.inr ⟨k,rfl⟩,rfl⟩,λe=>by cases e⟩
  |true=>
   rw[ab,zD];refine⟨λh=>absurd rfl h,λ_=>⟨λe=>by omega,λ_=>⟨rfl,e4 (by omega),?_⟩⟩⟩;obtain⟨p,hm,_,hq⟩:=zfy hp;show bJ _ (zt r.2.2.2.2.1 t).1=0;rw[hq];cases hz:(!decide ((FN r.2.2.2.2.1).1=0)||decide ((r.2.2.2.2.1.length:Int)=0)) with
   |true=>rw[hz] at c4;cases c4
   |false=>rw[hz,zD] at c4;exact(U2 c4 p hm).2
end bz

set_option profiler true
set_option profiler.threshold 2000
namespace bz
open Go.IntKind renaming wrap->zW,i64->zI,u8->zU
open Go Go.Ref
def cH(ae c:Int):Int:=if ae=2/\c=1 then 1 else if ae=1/\(c=5\/c=6) then 2 else 0
def jq(h:Int)(n:Nat):Nat:=if h=1 then(n+1)/2 else if h=2 then 2*n else n
def mV(h:Int)(t:ByteArray)(n:Int):Sum Int ByteArray:=if h=1 then(if(kb t n).2.1=0 then .inr (kb t n).1 else .inl (kb t n).2.1) else if h=2 then(if(mH t).2.2=true then .inr (mH t).1 else .inl 3) else .inr t
def kX(s:Spec)(z:Int):Sum Int ByteArray->ByteArray×Int×Int
 | .inl e=>(bs [],0,e)
 | .inr t=>if bJ s t=0 then(t,z,0) else(bs [],0,bJ s t)
def uJ(h:Int)(s:Spec)(b:ByteArray)(n a:Nat):ByteArray×Int×Int:=
 if b.size<a+jq h n then(bs [],0,2) else kX s ((a+jq h n:Nat):Int) (mV h (b.extract a (a+jq h n)) n)
def B8(ae:Int)(s:Spec)(b:ByteArray)(at_:Int):Sum Int (Nat×Nat):=
 if s.2.2.1=1 then .inr (s.2.2.2.1.toNat,at_.toNat) else if¬(jI ae s.2.2.1 b at_).2.2=0 then .inl (jI ae s.2.2.1 b at_).2.2 else
  if(jI ae s.2.2.1 b at_).1<s.2.2.2.1\/s.2.2.2.2.1<(jI ae s.2.2.1 b at_).1 then .inl 5 else .inr ((jI ae s.2.2.1 b at_).1.toNat,(jI ae s.2.2.1 b at_).2.1.toNat)
def Ep(h:Int)(s:Spec)(b:ByteArray):Sum Int (Nat×Nat)->ByteArray×Int×Int
 | .inl e=>(bs [],0,e)
 | .inr q=>uJ h s b q.1 q.2
def z28(ae:Int)(s:Spec)(b:ByteArray)(at_:Int):ByteArray×Int×Int:=
 if(ae=1\/ae=2)/\bM s=0/\0<=at_/\at_<=b.size then Ep (cH ae s.2.1) s b (B8 ae s b at_) else(bs [],0,1)
theorem Ca(ae c:Int):lY ae c=some (cH ae c):=by unfold lY zxh cH;by_cases h1:ae=1<;>by_cases h2:ae=2<;>by_cases h3:c=1<;>by_cases h4:c=5<;>by_cases h5:c=6<;>(try(exfalso;omega))<;>simp [h1,h2,h3,h4,h5]
theorem zly(ae c:Int):cH ae c=0\/cH ae c=1\/cH ae c=2:=by
 unfold cH;split
 ·exact .inr (.inl rfl)
 ·split
  ·exact .inr (.inr rfl)
  ·exact .inl rfl
theorem Oz{s:Spec}(h:bM s=0):1<=s.2.1/\s.2.1<=6/\1<=s.2.2.1/\s.2.2.1<=3/\1<=s.2.2.2.1/\s.2.2.2.1<=s.2.2.2.2.1/\s.2.2.2.2.1<=999/\(s.2.2.1=2->s.2.2.2.2.1<=99)/\(s.2.2.1=1->s.2.2.2.1=s.2.2.2.2.1):=by
 unfold bM at h;split at h
 ·cases h
 split at h
 ·cases h
 split at h
 ·cases h
 split at h
 ·cases h
 refine⟨by omega,by omega,by omega,by omega,by omega,by omega,by omega,λe=>by omega,λe=>by omega⟩
theorem VM:∀l:List Int,(fN l).length<=l.length
 | []=>by simp [fN]
 | [a]=>by simp [fN]
 |a::b::r=>by rw[fN,ls,ls,ls];have:=VM r;omega
theorem ztf(s:ByteArray):(mH s).1.size<=s.size:=by
 unfold mH;split
 ·exact Nat.zero_le _
 ·split
  ·exact Nat.zero_le _
  ·rw[lV,<-zf];exact VM _
theorem UH{ae form:Int}{b:ByteArray}{at_:Int}(h:(jI ae form b at_).2.2=0):0<=(jI ae form b at_).2.1/\(jI ae form b at_).2.1<=b.size:=by
 unfold jI at h⊢;cases hk:(fK ae form&&decide (0<=at_/\at_<=(b.size:Int))) with
 |false=>rw[hk] at h;cases h
 |true=>
  rw[hk] at h;simp only[zC] at h⊢;split
  ·exact⟨zaT _,Int.natCast_nonneg _⟩
  ·rename_i hs;split
   ·dsimp only;exact⟨by omega,by omega⟩
   ·exact⟨zaT _,Int.natCast_nonneg _⟩
def kW(kD:Int)(tZ:Spec)(ng:ByteArray)(n a:Int):Option jM:=
 let K:ByteArray->Int->Int->Option jM:=λa0 a1 a2=>some (a0,a1,a2)
 ((lY kD tZ.2.1).bind λr4=>(bif(decide (r4=(1:Int))) then((Q2 n).bind λr5=>(bif(decide ((zW zI (((ng).size:Int)-a))<r5)) then(K (bs []) (0:Int) (2:Int)) else(bif(decide ((0:Int)<=(zW zI (a+r5)))) then(bif(decide ((zW zI (a+r5))<=(((ng).size:Nat):Int))) then(bif(decide ((0:Int)<=a)) then(bif(decide (a<=((((zW zI (a+r5))).toNat:Nat):Int))) then((lY kD tZ.2.1).bind λr6=>(bif(decide (r6=(1:Int))) then((Q0 ((ng).extract (a).toNat ((zW zI (a+r5))).toNat) n).bind λr7=>(bif(!(decide (r7.2.1=(0:Int)))) then(K (bs []) (0:Int) r7.2.1) else((cf tZ r7.1).bind λr8=>(bif(!(decide (r8=(0:Int)))) then(K (bs []) (0:Int) r8) else(K r7.1 (zW zI (a+r5)) (0:Int)))))) else(bif(decide (r6=(2:Int))) then((il ((ng).extract (a).toNat ((zW zI (a+r5))).toNat)).bind λr9=>(bif(!r9.2.2) then(K (bs []) (0:Int) (3:Int)) else((cf tZ r9.1).bind λj4=>(bif(!(decide (j4=(0:Int)))) then(K (bs []) (0:Int) j4) else(K r9.1 (zW zI (a+r5)) (0:Int)))))) else((cf tZ ((ng).extract (a).toNat ((zW zI (a+r5))).toNat)).bind λjt=>(bif(!(decide (jt=(0:Int)))) then(K (bs []) (0:Int) jt) else(K ((ng).extract (a).toNat ((zW zI (a+r5))).toNat) (zW zI (a+r5)) (0:Int))))))) else none) else none) else none) else none))) else(bif(decide (r4=(2:Int))) then(bif(decide ((zW zI (((ng).size:Int)-a))<(zW zI ((2:Int)*n)))) then(K (bs []) (0:Int) (2:Int)) else(bif(decide ((0:Int)<=(zW zI (a+(zW zI ((2:Int)*n)))))) then(bif(decide ((zW zI (a+(zW zI ((2:Int)*n))))<=(((ng).size:Nat):Int))) then(bif(decide ((0:Int)<=a)) then(bif(decide (a<=((((zW zI (a+(zW zI ((2:Int)*n))))).toNat:Nat):Int))) then((lY kD tZ.2.1).bind λlD=>(bif(decide (lD=(1:Int))) then((Q0 ((ng).extract (a).toNat ((zW zI (a+(zW zI ((2:Int)*n))))).toNat) n).bind λju=>(bif(!(decide (ju.2.1=(0:Int)))) then(K (bs []) (0:Int) ju.2.1) else((cf tZ ju.1).bind λpV=>(bif(!(decide (pV=(0:Int)))) then(K (bs []) (0:Int) pV) else(K ju.1 (zW zI (a+(zW zI ((2:Int)*n)))) (0:Int)))))) else(bif(decide (lD=(2:Int))) then((il ((ng).extract (a).toNat ((zW zI (a+(zW zI ((2:Int)*n))))).toNat)).bind λsF=>(bif(!sF.2.2) then(K (bs []) (0:Int) (3:Int)) else((cf tZ sF.1).bind λxk=>(bif(!(decide (xk=(0:Int)))) then(K (bs []) (0:Int) xk) else(K sF.1 (zW zI (a+(zW zI ((2:Int)*n)))) (0:Int)))))) else((cf tZ ((ng).extract (a).toNat ((zW zI (a+(zW zI ((2:Int)*n))))).toNat)).bind λAX=>(bif(!(decide (AX=(0:Int)))) then(K (bs []) (0:Int) AX) else(K ((ng).extract (a).toNat ((zW zI (a+(zW zI ((2:Int)*n))))).toNat) (zW zI (a+(zW zI ((2:Int)*n)))) (0:Int))))))) else none) else none) else none) else none)) else(bif(decide ((zW zI (((ng).size:Int)-a))<n)) then(K (bs []) (0:Int) (2:Int)) else(bif(decide ((0:Int)<=(zW zI (a+n)))) then(bif(decide ((zW zI (a+n))<=(((ng).size:Nat):Int))) then(bif(decide ((0:Int)<=a)) then(bif(decide (a<=((((zW zI (a+n))).toNat:Nat):Int))) then((lY kD tZ.2.1).bind λAY=>(bif(decide (AY=(1:Int))) then((Q0 ((ng).extract (a).toNat ((zW zI (a+n))).toNat) n).bind λtY=>(bif(!(decide (tY.2.1=(0:Int)))) then(K (bs []) (0:Int) tY.2.1) else((cf tZ tY.1).bind λx9=>(bif(!(decide (x9=(0:Int)))) then(K (bs []) (0:Int) x9) else(K tY.1 (zW zI (a+n)) (0:Int)))))) else(bif(decide (AY=(2:Int))) then((il ((ng).extract (a).toNat ((zW zI (a+n))).toNat)).bind λpW=>(bif(!pW.2.2) then(K (bs []) (0:Int) (3:Int)) else((cf tZ pW.1).bind λG4=>(bif(!(decide (G4=(0:Int)))) then(K (bs []) (0:Int) G4) else(K pW.1 (zW zI (a+n)) (0:Int)))))) else((cf tZ ((ng).extract (a).toNat ((zW zI (a+n))).toNat)).bind λE7=>(bif(!(decide (E7=(0:Int)))) then(K (bs []) (0:Int) E7) else(K ((ng).extract (a).toNat ((zW zI (a+n))).toNat) (zW zI (a+n)) (0:Int))))))) else none) else none) else none) else none)))))
theorem apo(ae:Int)(s:Spec)(b:ByteArray)(n a:Nat)(hb:b.size<=1099511627776)(hn:n<=999)(ha:a<=b.size)(hh:cH ae s.2.1=0):kW ae s b n a=some (uJ (cH ae s.2.1) s b n a):=by
 unfold kW;simp only[Ca,zc];have w0:zW zI ((b.size:Int)-(a:Int))=(b.size:Int)-a:=zi (by omega) (by omega);have w1:∀z:Nat,z<=2000->zW zI ((a:Int)+(z:Int))=((a+z:Nat):Int):=λz hz=>by rw[zi (by omega) (by omega)];omega
 have hx:∀z:Nat,((a+z:Nat):Int).toNat=a+z:=λz=>ba _;have wI:∀z:Nat,(b.extract a (a+z)).size<=1099511627776:=λz=>by rw[zar];omega
 rw[hh];simp only[za7,decide_true,decide_false,zC,zD,w0,w1 n (by omega),hx,ba];unfold uJ jq mV;simp only[show¬((0:Int)=1) from by decide,show¬((0:Int)=2) from by decide,if_false];split
 ·rename_i hc;rw[zT (by omega),zC]
 ·rename_i hc;rw[zF (by omega),zD,zT (by omega),zC,zT (by omega),zC,zT (by omega),zC,zT (by omega),zC,ye _ _ (wI n),zc];unfold kX;by_cases hv:bJ s (b.extract a (a+n))=0
  ·simp only[hv,decide_true,ab,zD,if_true]
  ·simp only[hv,decide_false,GW,zC,if_false]
theorem apq(ae:Int)(s:Spec)(b:ByteArray)(n a:Nat)(hb:b.size<=1099511627776)(hn:n<=999)(ha:a<=b.size)(hh:cH ae s.2.1=1):kW ae s b n a=some (uJ (cH ae s.2.1) s b n a):=by
 unfold kW;simp only[Ca,zc];have w0:zW zI ((b.size:Int)-(a:Int))=(b.size:Int)-a:=zi (by omega) (by omega);have w1:∀z:Nat,z<=2000->zW zI ((a:Int)+(z:Int))=((a+z:Nat):Int):=λz hz=>by rw[zi (by omega) (by omega)];omega
 have hx:∀z:Nat,((a+z:Nat):Int).toNat=a+z:=λz=>ba _;have wI:∀z:Nat,(b.extract a (a+z)).size<=1099511627776:=λz=>by rw[zar];omega
 rw[hh];have ez:((n:Int)+1)/2=(((n+1)/2:Nat):Int):=by omega
 simp only[za7,decide_true,decide_false,zC,zD,Y6 (n:Int) (by omega) (by omega),zc,ez];simp only[w0,w1 ((n+1)/2) (by omega),hx,ba,za7,decide_true,decide_false,zC,zD];unfold uJ jq mV;simp only[if_true];split
 ·rename_i hc;rw[zT (by omega),zC]
 ·rename_i hc;rw[zF (by omega),zD,zT (by omega),zC,zT (by omega),zC,zT (by omega),zC,zT (by omega),zC,zl1 _ _ (wI _),zc];generalize hg:kb (b.extract a (a+(n+1)/2)) (n:Int)=g;obtain⟨t,e,i⟩:=g;have jd:=YZ hg;dsimp only;by_cases he:e=0
  ·rw[zT he,ab,zD,if_pos he,ye _ _ (by omega),zc];unfold kX;by_cases hv:bJ s t=0
   ·simp only[hv,decide_true,ab,zD,if_true]
   ·simp only[hv,decide_false,GW,zC,if_false]
  ·rw[zF he,GW,zC,if_neg he];rfl
theorem apr(ae:Int)(s:Spec)(b:ByteArray)(n a:Nat)(hb:b.size<=1099511627776)(hn:n<=999)(ha:a<=b.size)(hh:cH ae s.2.1=2):kW ae s b n a=some (uJ (cH ae s.2.1) s b n a):=by
 unfold kW;simp only[Ca,zc];have w0:zW zI ((b.size:Int)-(a:Int))=(b.size:Int)-a:=zi (by omega) (by omega);have w1:∀z:Nat,z<=2000->zW zI ((a:Int)+(z:Int))=((a+z:Nat):Int):=λz hz=>by rw[zi (by omega) (by omega)];omega
 have hx:∀z:Nat,((a+z:Nat):Int).toNat=a+z:=λz=>ba _;have wI:∀z:Nat,(b.extract a (a+z)).size<=1099511627776:=λz=>by rw[zar];omega
 rw[hh];have ez:zW zI ((2:Int)*(n:Int))=((2*n:Nat):Int):=by rw[zi (by omega) (by omega)];omega
 simp only[za7,decide_true,decide_false,zD,zC];rw[ez];simp only[w0,w1 (2*n) (by omega),hx,ba,za7,decide_true,decide_false,zC,zD];unfold uJ jq mV;simp only[show¬((2:Int)=1) from by decide,if_false,if_true];split
 ·rename_i hc;rw[zT (by omega),zC]
 ·rename_i hc;rw[zF (by omega),zD,zT (by omega),zC,zT (by omega),zC,zT (by omega),zC,zT (by omega),zC,SZ _ (wI _),zc];have jd:=ztf (b.extract a (a+2*n));have h3:=wI (2*n);generalize mH (b.extract a (a+2*n))=g at jd;obtain⟨t,i,ok⟩:=g;dsimp only at jd⊢;cases ok with
  |true=>
   rw[ab,zD,if_pos rfl,ye _ _ (by omega),zc];unfold kX;by_cases hv:bJ s t=0
   ·simp only[hv,decide_true,ab,zD,if_true]
   ·simp only[hv,decide_false,GW,zC,if_false]
  |false=>rw[GW,zC,if_neg (by decide)];rfl
theorem Vt(ae:Int)(s:Spec)(b:ByteArray)(n a:Nat)(hb:b.size<=1099511627776)(hn:n<=999)(ha:a<=b.size):kW ae s b n a=some (uJ (cH ae s.2.1) s b n a):=by
 rcases zly ae s.2.1 with hh|hh|hh
 ·exact apo ae s b n a hb hn ha hh
 ·exact apq ae s b n a hb hn ha hh
 ·exact apr ae s b n a hb hn ha hh
theorem aeL(ae:Int)(s:Spec)(b:ByteArray)(at_:Int)(hb:b.size<=1099511627776):Pa ae s b at_=some (z28 ae s b at_):=by
 have hk:FR ae=some (decide (ae=1\/ae=2)):=by
  unfold FR zi9;by_cases h1:ae=1
  ·rw[zT (p:=ae=1\/ae=2) (.inl h1),zT h1];rfl
  ·rw[zF h1,zD];by_cases h2:ae=2
   ·rw[zT (p:=ae=1\/ae=2) (.inr h2),zT h2]
   ·rw[zF (p:=ae=1\/ae=2) (λh=>h.elim h1 h2),zF h2]
 unfold Pa zx8 z28;rw[hk,zc];by_cases h1:ae=1\/ae=2
 case neg=>rw[zF h1,if_neg (λh=>h1 h.1)];rfl
 rw[zT h1,ab,zD,z59,zc];by_cases h2:bM s=0
 case neg=>rw[zF h2,if_neg (λh=>h2 h.2.1)];rfl
 rw[zT h2,ab,zD];by_cases h3:at_<0
 ·rw[zT h3,if_neg (λh=>by omega)];rfl
 rw[zF h3,zD];by_cases h4:(b.size:Int)<at_
 ·rw[zT h4,if_neg (λh=>by omega)];rfl
 rw[zF h4,zD,if_pos ⟨h1,h2,by omega,by omega⟩];obtain⟨k1,k2,k3,k4,k5,k6,k7,k8,k9⟩:=Oz h2;obtain⟨m,rfl⟩:∃m:Nat,at_=m:=⟨at_.toNat,by omega⟩
 unfold B8;by_cases h5:s.2.2.1=1
 ·rw[zT h5,ab,zD,if_pos h5];have:=Vt ae s b s.2.2.2.1.toNat m hb (by omega) (by omega);rw[zaG (by omega)] at this;exact this
 ·rw[zF h5,GW,zC,if_neg h5,aiN _ _ _ _ hb,zc];by_cases h6:(jI ae s.2.2.1 b m).2.2=0
  case neg=>rw[zF h6,if_pos h6];rfl
  rw[zT h6,ab,zD,if_neg (λh=>h h6)];have hp:=UH h6;by_cases h7:(jI ae s.2.2.1 b m).1<s.2.2.2.1
  ·rw[zT h7,if_pos (.inl h7)];rfl
  rw[zF h7,zD];by_cases h8:s.2.2.2.2.1<(jI ae s.2.2.1 b m).1
  ·rw[zT h8,if_pos (.inr h8)];rfl
  rw[zF h8,zD,if_neg (λh=>h.elim h7 h8)];have:=Vt ae s b (jI ae s.2.2.1 b m).1.toNat (jI ae s.2.2.1 b m).2.1.toNat hb (by omega) (by omega);rw[zaG (by omega),zaG (by omega)] at this;exact this
end bz

