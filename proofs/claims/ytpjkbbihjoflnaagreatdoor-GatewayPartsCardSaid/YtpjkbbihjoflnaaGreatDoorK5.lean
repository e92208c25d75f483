/- No condition. -/
import Derived.Test.YtpjkbbihjoflnaaGreatDoorK4
set_option linter.unusedVariables false
set_option linter.unusedSimpArgs false
set_option maxRecDepth 100000
namespace Go.Proofs.YtpjkbbihjoflnaaGreatDoor
noncomputable section
open Go Go.Ref bn
variable (R:Type) (kk k:Nat) (K:KF R) (J:KX R)
def Tryz.fZ:Go.Shelf.Ren:=⟨fun|105=>215|212=>225|99=>226|165=>227|166=>123|170=>228|169=>128|263=>236|264=>237|206=>238|240=>167|241=>239|276=>209|277=>244|n=>n,fun|9=>9|3=>3|4=>4|20=>20|0=>0|46=>154|109=>286|5=>5|72=>198|76=>201|51=>297|146=>298|53=>137|148=>250|70=>196|37=>99|75=>200|127=>256|164=>280|80=>210|n=>n,fun n=>n⟩
theorem Tryz.eg:Go.Proofs.Lays.n105 Go.Proofs.Tryz.prog Tryz.fZ:={
 mixed:=by kernel_rfl,
 f99:=Go.Proofs.Tryz.func226.trans (congrArg some (by kernel_rfl)),
 f105:=Go.Proofs.Tryz.func215.trans (congrArg some (by kernel_rfl)),
 f165:=Go.Proofs.Tryz.func227.trans (congrArg some (by kernel_rfl)),
 f166:=Go.Proofs.Tryz.func123.trans (congrArg some (by kernel_rfl)),
 f169:=Go.Proofs.Tryz.func128.trans (congrArg some (by kernel_rfl)),
 f170:=Go.Proofs.Tryz.func228.trans (congrArg some (by kernel_rfl)),
 f206:=Go.Proofs.Tryz.func238.trans (congrArg some (by kernel_rfl)),
 f212:=Go.Proofs.Tryz.func225.trans (congrArg some (by kernel_rfl)),
 f240:=Go.Proofs.Tryz.func167.trans (congrArg some (by kernel_rfl)),
 f241:=Go.Proofs.Tryz.func239.trans (congrArg some (by kernel_rfl)),
 f263:=Go.Proofs.Tryz.func236.trans (congrArg some (by kernel_rfl)),
 f264:=Go.Proofs.Tryz.func237.trans (congrArg some (by kernel_rfl)),
 f276:=Go.Proofs.Tryz.func209.trans (congrArg some (by kernel_rfl)),
 f277:=Go.Proofs.Tryz.func244.trans (congrArg some (by kernel_rfl)),
 t0:=Go.Proofs.Tryz.underlying0,
 a0:=Go.Proofs.Tryz.isAgg0,
 z0:=Go.Proofs.Tryz.sizeOf0,
 v0:=Go.Proofs.Tryz.zeroValue0,
 t3:=Go.Proofs.Tryz.underlying3,
 a3:=Go.Proofs.Tryz.isAgg3,
 z3:=Go.Proofs.Tryz.sizeOf3,
 v3:=Go.Proofs.Tryz.zeroValue3,
 t4:=Go.Proofs.Tryz.underlying4,
 a4:=Go.Proofs.Tryz.isAgg4,
 z4:=Go.Proofs.Tryz.sizeOf4,
 v4:=Go.Proofs.Tryz.zeroValue4,
 t5:=Go.Proofs.Tryz.underlying5,
 a5:=Go.Proofs.Tryz.isAgg5,
 z5:=Go.Proofs.Tryz.sizeOf5,
 v5:=Go.Proofs.Tryz.zeroValue5,
 t9:=Go.Proofs.Tryz.underlying9,
 a9:=Go.Proofs.Tryz.isAgg9,
 z9:=Go.Proofs.Tryz.sizeOf9,
 v9:=Go.Proofs.Tryz.zeroValue9,
 t20:=Go.Proofs.Tryz.underlying20,
 a20:=Go.Proofs.Tryz.isAgg20,
 z20:=Go.Proofs.Tryz.sizeOf20,
 v20:=Go.Proofs.Tryz.zeroValue20,
 t37:=Go.Proofs.Tryz.underlying99,
 a37:=Go.Proofs.Tryz.isAgg99,
 z37:=Go.Proofs.Tryz.sizeOf99,
 v37:=Go.Proofs.Tryz.zeroValue99,
 t46:=Go.Proofs.Tryz.underlying154,
 a46:=Go.Proofs.Tryz.isAgg154,
 z46:=Go.Proofs.Tryz.sizeOf154,
 v46:=Go.Proofs.Tryz.zeroValue154,
 t51:=Go.Proofs.Tryz.underlying297,
 a51:=Go.Proofs.Tryz.isAgg297,
 z51:=Go.Proofs.Tryz.sizeOf297,
 v51:=Go.Proofs.Tryz.zeroValue297,
 t53:=Go.Proofs.Tryz.underlying137,
 a53:=Go.Proofs.Tryz.isAgg137,
 z53:=Go.Proofs.Tryz.sizeOf137,
 v53:=Go.Proofs.Tryz.zeroValue137,
 t70:=Go.Proofs.Tryz.underlying196,
 a70:=Go.Proofs.Tryz.isAgg196,
 z70:=Go.Proofs.Tryz.sizeOf196,
 v70:=Go.Proofs.Tryz.zeroValue196,
 t72:=Go.Proofs.Tryz.underlying198,
 a72:=Go.Proofs.Tryz.isAgg198,
 z72:=Go.Proofs.Tryz.sizeOf198,
 v72:=Go.Proofs.Tryz.zeroValue198,
 t75:=Go.Proofs.Tryz.underlying200,
 a75:=Go.Proofs.Tryz.isAgg200,
 z75:=Go.Proofs.Tryz.sizeOf200,
 v75:=Go.Proofs.Tryz.zeroValue200,
 t76:=Go.Proofs.Tryz.underlying201,
 a76:=Go.Proofs.Tryz.isAgg201,
 z76:=Go.Proofs.Tryz.sizeOf201,
 v76:=Go.Proofs.Tryz.zeroValue201,
 t109:=Go.Proofs.Tryz.underlying286,
 a109:=Go.Proofs.Tryz.isAgg286,
 z109:=Go.Proofs.Tryz.sizeOf286,
 v109:=Go.Proofs.Tryz.zeroValue286,
 t127:=Go.Proofs.Tryz.underlying256,
 a127:=Go.Proofs.Tryz.isAgg256,
 z127:=Go.Proofs.Tryz.sizeOf256,
 v127:=Go.Proofs.Tryz.zeroValue256,
 t146:=Go.Proofs.Tryz.underlying298,
 a146:=Go.Proofs.Tryz.isAgg298,
 z146:=Go.Proofs.Tryz.sizeOf298,
 v146:=Go.Proofs.Tryz.zeroValue298,
 t148:=Go.Proofs.Tryz.underlying250,
 a148:=Go.Proofs.Tryz.isAgg250,
 z148:=Go.Proofs.Tryz.sizeOf250,
 v148:=Go.Proofs.Tryz.zeroValue250,
 t164:=Go.Proofs.Tryz.underlying280,
 a164:=Go.Proofs.Tryz.isAgg280,
 z164:=Go.Proofs.Tryz.sizeOf280,
 v164:=Go.Proofs.Tryz.zeroValue280}
theorem Tryz.mU:Go.Proofs.Builder.Extra Go.Proofs.Tryz.prog Tryz.fZ:={
 sizeBuilder:=by kernel_rfl,
 liesBuilder:=by kernel_rfl,
 t5:=Tryz.eg.t5,
 a5:=Tryz.eg.a5,
 z5:=Tryz.eg.z5,
 v5:=Tryz.eg.v5,
 infoByte:=by kernel_rfl,
 cellsByte:=by kernel_rfl,
 sizeByte:=by kernel_rfl,
 neB5:=by decide}
noncomputable abbrev zqr:Code:=Tryz.f215.body.getD .skip
theorem zik:rK Tryz.prog 215:=⟨Tryz.f215,zqr,Tryz.func215,by kernel_rfl,by kernel_rfl⟩
def z9p:Pure:=fun R l b K=>gb b (fp .str (.int .i64) l fun x0 x1=>(strings_Repeat x0 x1).bind fun r=>K [.aj .str r []] none)
theorem zqs:z9p.Nat:=fun R S l b F G K h=>Ek (zha fun _ _=>rA fun _=>h _ _)
def pH:ah:=yB.add 215 [] z9p
theorem ZK:aO Tryz.prog pH:=⟨Ci.mix,Vn Ci.nat zqs,ajK Ci.uu zik strings_Repeat (zdr Tryz.eg Tryz.mU (by kernel_rfl))⟩
def Wn:Env:=b9.env (fun i=>bif Nat.beq i 1 then [0,1] else []) (fun i=>bif Nat.beq i 1 then [0] else []) [] [.str,(.int .u8)]
def UT(a:ByteArray)(b:Int):Option R:=aB (ev Wn (pH R) kk (sub [1,0,0,0] (cd Tryz.f230))) [0,1] [0] k ⟨[tS a]::[tU b]::uS 21 [],nS 24 []⟩ J
def zg3(a:ByteArray):State:=⟨[tS a]::uS 22 [],nS 24 []⟩
def Nq:KX R:=(zj 0 (aT Wn (pH R) kk (sub [1,1] (cd Tryz.f230)) (aS Wn Tryz.f230.results.toList none K)))
theorem alh(a:ByteArray)(b:Int):UT R kk (k+1) J a b=
 UW a b (UT R kk k J) (fun a0=>J (.exit 0) (zg3 a0)):=by kernel_rfl
theorem aeY(a:ByteArray):Nq R kk K (.exit 0) (zg3 a)=
 UX a (fun a0=>K [tS a0] none):=by kernel_rfl
theorem aid{kk:Nat}(hF:kk=ag)(iM:ByteArray)(BF:Int):UT R kk k J iM BF=(Gg k iM BF).bind fun e=>J (.exit 0) (zg3 e):=by
 induction k generalizing iM BF with
 |zero=>rfl
 |succ k ih=>
  rw[alh]
  simp only[Gg,UW,ih,aE]
def pI:ah:=pH.add 230 [.str,(.int .u8)] (dv .str (.int .u8) vN (fun _ r K=>K [tS r] none))
theorem ZL:aO Tryz.prog pI:=dz Wn Tryz.f230 (fun R kk x0 x1 K=>UU x0 x1 (UT R kk kk (Nq R kk K))) ZK (ek _ _ _ _) Tryz.func230 (by kernel_rfl) rfl (fun _ _ _ _ _ _ h=>h _ _) (fun _ _ _ _ _=>by kernel_rfl) fun R kk e x0 x1 K=>by
 simp only[vN,UU,UX,aid (hF:=e),aeY,aE,<-e]
def Wm:Env:=b9.env (fun i=>bif Nat.beq i 1 then [0,1] else []) (fun i=>bif Nat.beq i 1 then [0] else []) [] [.str,(.int .u8)]
def UP(a:ByteArray)(b:Int):Option R:=aB (ev Wm (pI R) kk (sub [1,0,0,0] (cd Tryz.f229))) [0,1] [0] k ⟨[tS a]::[tU b]::uS 15 [],nS 18 []⟩ J
def zg2(a:ByteArray):State:=⟨[tS a]::uS 16 [],nS 18 []⟩
def Np:KX R:=(zj 0 (aT Wm (pI R) kk (sub [1,1] (cd Tryz.f229)) (aS Wm Tryz.f229.results.toList none K)))
theorem alg(a:ByteArray)(b:Int):UP R kk (k+1) J a b=
 UR a b (UP R kk k J) (fun a0=>J (.exit 0) (zg2 a0)):=by kernel_rfl
theorem aeX(a:ByteArray):Np R kk K (.exit 0) (zg2 a)=
 US a (fun a0=>K [tS a0] none):=by kernel_rfl
theorem aic{kk:Nat}(hF:kk=ag)(iM:ByteArray)(BF:Int):UP R kk k J iM BF=(Gf k iM BF).bind fun e=>J (.exit 0) (zg2 e):=by
 induction k generalizing iM BF with
 |zero=>rfl
 |succ k ih=>
  rw[alg]
  simp only[Gf,UR,ih,aE]
def yC:ah:=pI.add 229 [.str,(.int .u8)] (dv .str (.int .u8) vM (fun _ r K=>K [tS r] none))
theorem ZM:aO Tryz.prog yC:=dz Wm Tryz.f229 (fun R kk x0 x1 K=>UQ x0 x1 (UP R kk kk (Np R kk K))) ZL (ek _ _ _ _) Tryz.func229 (by kernel_rfl) rfl (fun _ _ _ _ _ _ h=>h _ _) (fun _ _ _ _ _=>by kernel_rfl) fun R kk e x0 x1 K=>by
 simp only[vM,UQ,US,aic (hF:=e),aeX,aE,<-e]
def anp:Env:=e0 [.str,.str]
def yD:ah:=yC.add 216 [.str,.str] (dv .str .str s7 (fun _ r K=>K [tS r] none))
theorem ZO:aO Tryz.prog yD:=dz anp Tryz.f216 (fun R kk x0 x1 K=>UO x0 x1 (fun a0=>K [tS a0] none)) ZM (ek _ _ _ _) Tryz.func216 (by kernel_rfl) rfl (fun _ _ _ _ _ _ h=>h _ _) (fun _ _ _ _ _=>by kernel_rfl) fun R kk e x0 x1 K=>by
 simp only[s7,UO,aE]
def G9:Env:=e0 [.str,(.int .i64)]
def pJ:ah:=yD.add 185 [.str,(.int .i64)] (dv .str (.int .i64) G8 (fun _ r K=>K [tS r.1,tB r.2] none))
theorem ZP:aO Tryz.prog pJ:=dz G9 Tryz.f185 (fun R kk x0 x1 K=>WA x0 x1 (fun a0 a1=>K [tS a0,tB a1] none)) ZO (ek _ _ _ _) Tryz.func185 (by kernel_rfl) rfl (fun _ _ _ _ _ _ h=>h _ _) (fun _ _ _ _ _=>by kernel_rfl) fun R kk e x0 x1 K=>by
 simp only[G8,WA,aE]
def oJ:Env:=b9.env (fun i=>bif Nat.beq i 2 then [1,8,9,10] else []) (fun i=>bif Nat.beq i 2 then [4,5] else []) [] [(.sl 109 (.pair .str (.pair .str .unit))),.str]
def Wk(a:ByteArray)(b:aN)(c d:Int):Option R:=aB (ev oJ (pJ R) kk (sub [1,0,1,0,0] (cd Tryz.f186))) [1,8,9,10] [4,5] k ⟨uS 1 ([tS a]::uS 6 ([.aj (.sl 109 (.pair .str (.pair .str .unit))) b []]::[tI c]::[tI d]::uS 10 [])),nS 22 []⟩ J
def zov(a:ByteArray)(b:Bool):State:=⟨uS 4 ([tS a]::[tB b]::uS 15 []),nS 22 []⟩
def zow:State:=⟨uS 21 [],nS 22 []⟩
def Db:KX R:=(zj 0 (aT oJ (pJ R) kk (sub [1,1] (cd Tryz.f186)) (aS oJ Tryz.f186.results.toList none K)))
theorem ano(a:ByteArray)(b:aN)(c d:Int):Wk R kk (k+1) J a b c d=
 Dc a b c d (fun a0 a1=>J .ret (zov a0 a1)) (Wk R kk k J) (J (.exit 0) (zow)):=by kernel_rfl
theorem aia(a:ByteArray)(b:Bool):Db R kk K .ret (zov a b)=
 Dd a b (fun a0 a1=>K [tS a0,tB a1] none):=by kernel_rfl
theorem aib:Db R kk K (.exit 0) (zow)=
 De (fun a0 a1=>K [tS a0,tB a1] none):=by kernel_rfl
theorem alf{kk:Nat}(hF:kk=ag)(oq:ByteArray)(t8:aN)(t9 t10:Int):Wk R kk k J oq t8 t9 t10=(Qh k oq t8 t9 t10).bind fun e=>(Sum.elim (fun(we:jy)=>J .ret (zov we.1 we.2)) (fun(we:Unit)=>J (.exit 0) (zow)) e):=by
 induction k generalizing oq t8 t9 t10 with
 |zero=>rfl
 |succ k ih=>
  rw[ano]
  simp only[Qh,Dc,ih,aE]
def yE:ah:=pJ.add 186 [(.sl 109 (.pair .str (.pair .str .unit))),.str] (dv (.sl 109 (.pair .str (.pair .str .unit))) .str G6 (fun _ r K=>K [tS r.1,tB r.2] none))
theorem ZQ:aO Tryz.prog yE:=dz oJ Tryz.f186 (fun R kk x0 x1 K=>Wl x0 x1 (Wk R kk kk (Db R kk K))) ZP (ek _ _ _ _) Tryz.func186 (by kernel_rfl) rfl (fun _ _ _ _ _ _ h=>h _ _) (fun _ _ _ _ _=>by kernel_rfl) fun R kk e x0 x1 K=>by
 simp only[G6,Wl,Dd,De,alf (hF:=e),aia,aib,aE,<-e]
def anb:Env:=b9.env (fun _=>[]) (fun _=>[]) [6] [cA,aK,.str]
def kQ:ah:=yE.add 135 [cA,aK,.str] (kh cA aK .str nV (fun _ r K=>K [.aj (.pair (.int .i64) (.pair .str .unit)) r.1 [],tI r.2] none))
theorem ZR:aO Tryz.prog kQ:=ku anb Tryz.f135 (fun R kk x0 x1 x2 K=>Uo x0 x1 x2 (fun a0 a1=>K [.aj (.pair (.int .i64) (.pair .str .unit)) a0 [],tI a1] none)) ZQ (ek _ _ _ _) Tryz.func135 (by kernel_rfl) rfl (fun _ _ _ _ _ _ h=>h _ _) (fun _ _ _ _ _ _=>by kernel_rfl) fun R kk e x0 x1 x2 K=>by
 simp only[nV,Uo,aE]
def E3:Env:={{b9.env (fun i=>bif Nat.beq i 12 then [4,6,7,8,9,16,59,60,61] else bif Nat.beq i 18 then [4,6,8,9,16,76,77,78] else []) (fun i=>bif Nat.beq i 12 then [4,6,7,8,9,16] else bif Nat.beq i 18 then [8,9,16] else []) [8,9] [cD,aK,aK,y8] with dr:=fun i=>bif Nat.beq i 12 then [17] else []} with ro:=true}
def Ve(a:bQ)(b c:Int)(d:ay)(e:af)(f g:aw)(h:aQ)(i:aw):Option R:=aB (ev E3 (kQ R) kk (sub [1,1,1,1,1,1,0,1,0,0] (cd Tryz.f91))) [4,6,7,8,9,16,59,60,61] [4,6,7,8,9,16] k ⟨uS 4 ([.ptr 5 cD []]::uS 1 ([.ptr 7 aK []]::[.ptr 8 y8 []]::[.ptr 9 y8 []]::[.ptr 10 (.pair (.int .i64) (.pair (.int .i64) .unit)) []]::uS 6 ([.ptr 17 y8 []]::uS 42 ([.aj (.sl 102 cA) a []]::[tI b]::[tI c]::uS 60 [])))),nS 5 ((some ⟨cD,d,[]⟩)::nS 1 ((some ⟨aK,e,[]⟩)::(some ⟨y8,f,[]⟩)::(some ⟨y8,g,[[1]]⟩)::(some ⟨(.pair (.int .i64) (.pair (.int .i64) .unit)),h,[]⟩)::nS 6 ((some ⟨y8,i,[]⟩)::nS 105 [])))⟩ J
def zge(a:ay)(b:af)(c d:aw)(e:aQ)(f:aw):State:=⟨uS 4 ([.ptr 5 cD []]::uS 1 ([.ptr 7 aK []]::[.ptr 8 y8 []]::[.ptr 9 y8 []]::[.ptr 10 (.pair (.int .i64) (.pair (.int .i64) .unit)) []]::uS 6 ([.ptr 17 y8 []]::uS 105 []))),nS 5 ((some ⟨cD,a,[]⟩)::nS 1 ((some ⟨aK,b,[]⟩)::(some ⟨y8,c,[]⟩)::(some ⟨y8,d,[[1]]⟩)::(some ⟨(.pair (.int .i64) (.pair (.int .i64) .unit)),e,[]⟩)::nS 6 ((some ⟨y8,f,[]⟩)::nS 105 [])))⟩
def Ns:KX R:=(zj 0 (aT E3 (kQ R) kk (sub [1,1,1,1,1,1,1] (cd Tryz.f91)) (aS E3 Tryz.f91.results.toList none K)))
def Vf(a:ak)(b c:Int)(d:ay)(e:af)(f:aw)(g:aQ)(h:aw):Option R:=aB (ev E3 (kQ R) kk (sub [1,1,1,1,1,1,1,0,1,0,0] (cd Tryz.f91))) [4,6,8,9,16,76,77,78] [8,9,16] k ⟨uS 4 ([.ptr 5 cD []]::uS 1 ([.ptr 7 aK []]::uS 1 ([.ptr 9 y8 []]::[.ptr 10 (.pair (.int .i64) (.pair (.int .i64) .unit)) []]::uS 6 ([.ptr 17 y8 []]::uS 59 ([.aj (.sl 208 (.pair (.int .i64) (.pair .str .unit))) a []]::[tI b]::[tI c]::uS 43 []))))),nS 5 ((some ⟨cD,d,[]⟩)::nS 1 ((some ⟨aK,e,[]⟩)::nS 1 ((some ⟨y8,f,[[1]]⟩)::(some ⟨(.pair (.int .i64) (.pair (.int .i64) .unit)),g,[]⟩)::nS 6 ((some ⟨y8,h,[]⟩)::nS 105 []))))⟩ J
def zgf(a:aw)(b:aQ)(c:aw):State:=⟨uS 8 ([.ptr 9 y8 []]::[.ptr 10 (.pair (.int .i64) (.pair (.int .i64) .unit)) []]::uS 6 ([.ptr 17 y8 []]::uS 105 [])),nS 9 ((some ⟨y8,a,[[1]]⟩)::(some ⟨(.pair (.int .i64) (.pair (.int .i64) .unit)),b,[]⟩)::nS 6 ((some ⟨y8,c,[]⟩)::nS 105 []))⟩
def zgg(a:aw)(b:aQ)(c:aw):State:=⟨uS 8 ([.ptr 9 y8 []]::[.ptr 10 (.pair (.int .i64) (.pair (.int .i64) .unit)) []]::uS 6 ([.ptr 17 y8 []]::uS 105 [])),nS 9 ((some ⟨y8,a,[[1]]⟩)::(some ⟨(.pair (.int .i64) (.pair (.int .i64) .unit)),b,[]⟩)::nS 6 ((some ⟨y8,c,[]⟩)::nS 105 []))⟩
def zzz:KX R:=(zj 2 (aT E3 (kQ R) kk (sub [1,1,1,1,1,1,1,1] (cd Tryz.f91)) (aS E3 Tryz.f91.results.toList none K)))
theorem alp(a:bQ)(b c:Int)(d:ay)(e:af)(f g:aw)(h:aQ)(i:aw):Ve R kk (k+1) J a b c d e f g h i=
 CA a b c d e f g h i (Ve R kk k J) (fun a0 a1 a2 a3 a4 a5=>J (.exit 0) (zge a0 a1 a2 a3 a4 a5)):=by kernel_rfl
theorem ae8(a:ay)(b:af)(c d:aw)(e:aQ)(f:aw):Ns R kk K (.exit 0) (zge a b c d e f)=
 Vh a b c d e f (Vf R kk kk (zzz R kk K)):=by kernel_rfl
theorem alq(a:ak)(b c:Int)(d:ay)(e:af)(f:aw)(g:aQ)(h:aw):Vf R kk (k+1) J a b c d e f g h=
 CB a b c d e f g h (fun a0 a1 a2=>J .ret (zgf a0 a1 a2)) (Vf R kk k J) (fun a0 a1 a2=>J (.exit 2) (zgg a0 a1 a2)):=by kernel_rfl
theorem ae9(a:aw)(b:aQ)(c:aw):zzz R kk K .ret (zgf a b c)=
 CC a b c (fun a0 a1=>K [.aj y8 a0 [],.aj (.pair (.int .i64) (.pair (.int .i64) .unit)) a1 []] none):=by kernel_rfl
theorem afa(a:aw)(b:aQ)(c:aw):zzz R kk K (.exit 2) (zgg a b c)=
 CD a b c (fun a0 a1=>K [.aj y8 a0 [],.aj (.pair (.int .i64) (.pair (.int .i64) .unit)) a1 []] none):=by kernel_rfl
theorem aim{kk:Nat}(hF:kk=ag)(t59:bQ)(t60 t61:Int)(cP:ay)(jS:af)(lN BD:aw)(BE:aQ)(jR:aw):Ve R kk k J t59 t60 t61 cP jS lN BD BE jR=(PY k t59 t60 t61 cP jS lN BD BE jR).bind fun e=>J (.exit 0) (zge e.1 e.2.1 e.2.2.1 e.2.2.2.1 e.2.2.2.2.1 e.2.2.2.2.2):=by
 induction k generalizing t59 t60 t61 cP jS lN BD BE jR with
 |zero=>rfl
 |succ k ih=>
  rw[alp]
  simp only[PY,CA,ih,aE]
theorem ain{kk:Nat}(hF:kk=ag)(t76:ak)(t77 t78:Int)(cP:ay)(jS:af)(BD:aw)(BE:aQ)(jR:aw):Vf R kk k J t76 t77 t78 cP jS BD BE jR=(PZ k t76 t77 t78 cP jS BD BE jR).bind fun e=>(Sum.elim (fun(we:qM)=>J .ret (zgf we.1 we.2.1 we.2.2)) (fun(we:qM)=>J (.exit 2) (zgg we.1 we.2.1 we.2.2)) e):=by
 induction k generalizing t76 t77 t78 cP jS BD BE jR with
 |zero=>rfl
 |succ k ih=>
  rw[alq]
  simp only[PZ,CB,ih,aE]
def yF:ah:=kQ.add 91 [cD,aK,aK,y8] (Rw cD aK aK y8 qJ (fun _ r K=>K [.aj y8 r.1 [],.aj (.pair (.int .i64) (.pair (.int .i64) .unit)) r.2 []] none))
theorem ZS:aO Tryz.prog yF:=st4 E3 Tryz.f91 (fun R kk x0 x1 x2 x3 K=>Vg x0 x1 x2 x3 (fun a0 a1=>K [.aj y8 a0 [],.aj (.pair (.int .i64) (.pair (.int .i64) .unit)) a1 []] none) (Ve R kk kk (Ns R kk K))) ZR (((ek _ _ _ _).dr _).ro _) Tryz.func91 (by kernel_rfl) rfl (fun _ _ _ _ _ _ h=>h _ _) (fun _ _ _ _ _ _ _=>by kernel_rfl) fun R kk e x0 x1 x2 x3 K=>by
 simp only[qJ,Vg,Vh,CC,CD,aim (hF:=e),ain (hF:=e),ae8,ae9,afa,aE,<-e]
def am9:Env:={e0 [bM,(.int .i64),.str] with fr:=fun i=>bif Nat.beq i 5 then [12,4] else []}
def yG:ah:=yF.add 63 [bM,(.int .i64),.str] (kh bM (.int .i64) .str sV (fun _ r K=>K [tI r.1,tS r.2] none))
theorem ZT:aO Tryz.prog yG:=ku am9 Tryz.f63 (fun R kk x0 x1 x2 K=>Um x0 x1 x2 (fun a0 a1=>K [tI a0,tS a1] none)) ZS ((ek _ _ _ _).fr _) Tryz.func63 (by kernel_rfl) rfl (fun _ _ _ _ _ _ h=>h _ _) (fun _ _ _ _ _ _=>by kernel_rfl) fun R kk e x0 x1 x2 K=>by
 simp only[sV,Um,aE]
def Hr:Env:=e0 [.str]
def yH:ah:=yG.add 64 [.str] (cK .str Bn (fun _ r K=>K [tS r.1,tI r.2] none))
theorem ZU:aO Tryz.prog yH:=cN Hr Tryz.f64 (fun R kk x0 K=>WU x0 (fun a0 a1=>K [tS a0,tI a1] none)) ZT (ek _ _ _ _) Tryz.func64 (by kernel_rfl) rfl (fun _ _ _ _ _ _ h=>h _ _) (fun _ _ _ _=>by kernel_rfl) fun R kk e x0 K=>by
 simp only[Bn,WU,aE]
def Hv:Env:={b9.env (fun _=>[]) (fun _=>[]) [6] [.unit,(.int .i64),.str] with gr:=fun t=>bif Nat.beq t 87 then some (bM,y6) else none,ga:=fun t=>Nat.beq t 85}
def pK:ah:=yH.add 46 [.unit,(.int .i64),.str] (pb2 (.aJ .bN bM y6) [[],[0],[0,2],[1],[1,2]] (.int .i64) .str Fl (fun _ r K=>K [.aj y9 r.1 []] (some ⟨(.aJ .bN bM y6),r.2,[[],[0],[0,2],[1],[1,2]]⟩)))
theorem ZV:aO Tryz.prog pK:=sb2 Hv Tryz.f46 (fun R kk x0 x1 x2 K=>WZ x0 x1 x2 (fun a0 a1=>K [.aj y9 a0 []] (some ⟨(.aJ .bN bM y6),a1,[[],[0],[0,2],[1],[1,2]]⟩))) ZU ((ek _ _ _ _).bN 87 85 bM y6 (by kernel_rfl) (by kernel_rfl) (by kernel_rfl) (by kernel_rfl)) Tryz.func46 (by kernel_rfl) rfl (fun _ _ _ _ _ _ h=>h _ _) (fun _ _ _ _ _ _=>by kernel_rfl) fun R kk e x0 x1 x2 K=>by
 simp only[Fl,WZ,aE]
def oT:Env:={{b9.env (fun i=>bif Nat.beq i 6 then [0,3,5,7,27,28,29] else []) (fun i=>bif Nat.beq i 6 then [0,3,5,7] else []) [] [.unit,(.pair (.int .i64) (.pair .str .unit))] with ro:=true} with gr:=fun t=>bif Nat.beq t 87 then some (bM,y6) else none,ga:=fun t=>Nat.beq t 85}
def WV(a:ct)(b:Bool)(c:(List ByteArray))(d e:Int)(f:(av×(Option al×Option al)×Int))(g:bd):Option R:=aB (ev oT (pK R) kk (sub [1,1,1,1,0,1,0,0] (cd Tryz.f21))) [0,3,5,7,27,28,29] [0,3,5,7] k ⟨[.ptr 0 (.aJ .bN bM y6) []]::uS 2 ([.ptr 4 (.pair (.int .i64) (.pair .str .unit)) []]::uS 1 ([.aj (.sl 71 y9) a [[]]]::uS 1 ([tB b]::uS 19 ([.aj (.sl 9 .str) c []]::[tI d]::[tI e]::uS 24 [])))),(some ⟨(.aJ .bN bM y6),f,[[],[0],[0,2],[1],[1,2]]⟩)::nS 3 ((some ⟨(.pair (.int .i64) (.pair .str .unit)),g,[]⟩)::nS 50 [])⟩ J
def zp6(a:ct)(b:Bool)(c:(av×(Option al×Option al)×Int))(d:bd):State:=⟨[.ptr 0 (.aJ .bN bM y6) []]::uS 2 ([.ptr 4 (.pair (.int .i64) (.pair .str .unit)) []]::uS 1 ([.aj (.sl 71 y9) a [[]]]::uS 1 ([tB b]::uS 46 []))),(some ⟨(.aJ .bN bM y6),c,[[],[0],[0,2],[1],[1,2]]⟩)::nS 3 ((some ⟨(.pair (.int .i64) (.pair .str .unit)),d,[]⟩)::nS 50 [])⟩
def Oa(a:(av×(Option al×Option al)×Int)):KX R:=(zj 0 (aT oT (pK R) kk (sub [1,1,1,1,1] (cd Tryz.f21)) (aS oT Tryz.f21.results.toList (some ⟨(.aJ .bN bM y6),a,[[],[0],[0,2],[1],[1,2]]⟩) K)))
theorem anE(a:ct)(b:Bool)(c:(List ByteArray))(d e:Int)(f:(av×(Option al×Option al)×Int))(g:bd):WV R kk (k+1) J a b c d e f g=
 Dv a b c d e f g (WV R kk k J) (fun a0 a1 a2 a3=>J (.exit 0) (zp6 a0 a1 a2 a3)):=by kernel_rfl
theorem aix(a:(av×(Option al×Option al)×Int))(b:ct)(c:Bool)(d:(av×(Option al×Option al)×Int))(e:bd):Oa R kk K a (.exit 0) (zp6 b c d e)=
 Qn b c d e (fun a0 a1=>K [.aj (.sl 71 y9) a0 []] (some ⟨(.aJ .bN bM y6),a1,[[],[0],[0,2],[1],[1,2]]⟩)):=by kernel_rfl
theorem alA{kk:Nat}(hF:kk=ag)(t5:ct)(t7:Bool)(t27:(List ByteArray))(t28 t29:Int)(recv:(av×(Option al×Option al)×Int))(dc:bd):WV R kk k J t5 t7 t27 t28 t29 recv dc=(Gu k t5 t7 t27 t28 t29 recv dc).bind fun e=>J (.exit 0) (zp6 e.1 e.2.1 e.2.2.1 e.2.2.2):=by
 induction k generalizing t5 t7 t27 t28 t29 recv dc with
 |zero=>rfl
 |succ k ih=>
  rw[anE]
  simp only[Gu,Dv,ih,aE]
def pL:ah:=pK.add 21 [.unit,(.pair (.int .i64) (.pair .str .unit))] (Co (.aJ .bN bM y6) [[],[0],[0,2],[1],[1,2]] (.pair (.int .i64) (.pair .str .unit)) Fk (fun _ r K=>K [.aj (.sl 71 y9) r.1 []] (some ⟨(.aJ .bN bM y6),r.2,[[],[0],[0,2],[1],[1,2]]⟩)))
theorem ZW:aO Tryz.prog pL:=Kl oT Tryz.f21 (fun R kk x0 x1 K=>WW x0 x1 (fun a0 a1=>K [.aj (.sl 71 y9) a0 []] (some ⟨(.aJ .bN bM y6),a1,[[],[0],[0,2],[1],[1,2]]⟩)) (WV R kk kk (Oa R kk K x0))) ZV (((ek _ _ _ _).ro _).bN 87 85 bM y6 (by kernel_rfl) (by kernel_rfl) (by kernel_rfl) (by kernel_rfl)) Tryz.func21 (by kernel_rfl) rfl (fun _ _ _ _ _ _ h=>h _ _) (fun _ _ _ _ _=>by kernel_rfl) fun R kk e x0 x1 K=>by
 simp only[Fk,WW,Qn,alA (hF:=e),aix,aE,<-e]
def oU:Env:=b9.env (fun i=>bif Nat.beq i 3 then [0,5,8,9,10] else []) (fun i=>bif Nat.beq i 3 then [5] else []) [] [.unit,(.sl 57 (.pair (.int .i64) (.pair .str .unit)))]
def WX(a:ct)(b:ak)(c d:Int)(e:(av×(Option al×Option al)×Int)):Option R:=aB (ev oU (pL R) kk (sub [1,1,0,1,0,0] (cd Tryz.f23))) [0,5,8,9,10] [5] k ⟨[.ptr 0 (.aJ .bN bM y6) []]::uS 4 ([.aj (.sl 71 y9) a [[]]]::uS 2 ([.aj (.sl 57 (.pair (.int .i64) (.pair .str .unit))) b []]::[tI c]::[tI d]::uS 10 [])),(some ⟨(.aJ .bN bM y6),e,[[],[0],[0,2],[1],[1,2]]⟩)::nS 21 []⟩ J
def zp7(a:ct)(b:(av×(Option al×Option al)×Int)):State:=⟨uS 5 ([.aj (.sl 71 y9) a [[]]]::uS 15 []),(some ⟨(.aJ .bN bM y6),b,[[],[0],[0,2],[1],[1,2]]⟩)::nS 21 []⟩
def Ob(a:(av×(Option al×Option al)×Int)):KX R:=(zj 0 (aT oU (pL R) kk (sub [1,1,1] (cd Tryz.f23)) (aS oU Tryz.f23.results.toList (some ⟨(.aJ .bN bM y6),a,[[],[0],[0,2],[1],[1,2]]⟩) K)))
theorem anF(a:ct)(b:ak)(c d:Int)(e:(av×(Option al×Option al)×Int)):WX R kk (k+1) J a b c d e=
 Dw a b c d e (WX R kk k J) (fun a0 a1=>J (.exit 0) (zp7 a0 a1)):=by kernel_rfl
theorem aiy(a:(av×(Option al×Option al)×Int))(b:ct)(c:(av×(Option al×Option al)×Int)):Ob R kk K a (.exit 0) (zp7 b c)=
 z154 b c (fun a0 a1=>K [.aj (.sl 71 y9) a0 []] (some ⟨(.aJ .bN bM y6),a1,[[],[0],[0,2],[1],[1,2]]⟩)):=by kernel_rfl
theorem alB{kk:Nat}(hF:kk=ag)(t5:ct)(t8:ak)(t9 t10:Int)(recv:(av×(Option al×Option al)×Int)):WX R kk k J t5 t8 t9 t10 recv=(Qo k t5 t8 t9 t10 recv).bind fun e=>J (.exit 0) (zp7 e.1 e.2):=by
 induction k generalizing t5 t8 t9 t10 recv with
 |zero=>rfl
 |succ k ih=>
  rw[anF]
  simp only[Qo,Dw,ih,aE]
def pM:ah:=pL.add 23 [.unit,(.sl 57 (.pair (.int .i64) (.pair .str .unit)))] (Co (.aJ .bN bM y6) [[],[0],[0,2],[1],[1,2]] (.sl 57 (.pair (.int .i64) (.pair .str .unit))) vP (fun _ r K=>K [.aj (.sl 71 y9) r.1 []] (some ⟨(.aJ .bN bM y6),r.2,[[],[0],[0,2],[1],[1,2]]⟩)))
theorem ZX:aO Tryz.prog pM:=Kl oU Tryz.f23 (fun R kk x0 x1 K=>WY x0 x1 (WX R kk kk (Ob R kk K x0))) ZW (ek _ _ _ _) Tryz.func23 (by kernel_rfl) rfl (fun _ _ _ _ _ _ h=>h _ _) (fun _ _ _ _ _=>by kernel_rfl) fun R kk e x0 x1 K=>by
 simp only[vP,WY,z154,alB (hF:=e),aiy,aE,<-e]
def VX:Env:=b9.env (fun i=>bif Nat.beq i 4 then [0,1,5] else []) (fun i=>bif Nat.beq i 4 then [4] else []) [] [(.sl 71 y9),(.sl 71 y9)]
def TC(a b:ct)(c:Int):Option R:=aB (ev VX (pM R) kk (sub [1,1,0,1,0,0] (cd Tryz.f20))) [0,1,5] [4] k ⟨[.aj (.sl 71 y9) a []]::[.aj (.sl 71 y9) b []]::uS 3 ([tI c]::uS 20 []),nS 27 []⟩ J
def zez(a:Bool):State:=⟨uS 4 ([tB a]::uS 21 []),nS 27 []⟩
def zf0:State:=⟨uS 26 [],nS 27 []⟩
def zxu:KX R:=(zj 0 (aT VX (pM R) kk (sub [1,1,1] (cd Tryz.f20)) (aS VX Tryz.f20.results.toList none K)))
theorem akS(a b:ct)(c:Int):TC R kk (k+1) J a b c=
 zxv a b c (fun a0=>J .ret (zez a0)) (TC R kk k J) (J (.exit 0) (zf0)):=by kernel_rfl
theorem aem(a:Bool):zxu R kk K .ret (zez a)=
 TE a (fun a0=>K [tB a0] none):=by kernel_rfl
theorem aen:zxu R kk K (.exit 0) (zf0)=
 TF (fun a0=>K [tB a0] none):=by kernel_rfl
theorem ahN{kk:Nat}(hF:kk=ag)(lM tu:ct)(t5:Int):TC R kk k J lM tu t5=(PB k lM tu t5).bind fun e=>(Sum.elim (fun(we:Bool)=>J .ret (zez we)) (fun(we:Unit)=>J (.exit 0) (zf0)) e):=by
 induction k generalizing lM tu t5 with
 |zero=>rfl
 |succ k ih=>
  rw[akS]
  simp only[PB,zxv,ih,aE]
def yI:ah:=pM.add 20 [(.sl 71 y9),(.sl 71 y9)] (dv (.sl 71 y9) (.sl 71 y9) mD (fun _ r K=>K [tB r] none))
theorem ZZ:aO Tryz.prog yI:=dz VX Tryz.f20 (fun R kk x0 x1 K=>TD x0 x1 (fun a0=>K [tB a0] none) (TC R kk kk (zxu R kk K))) ZX (ek _ _ _ _) Tryz.func20 (by kernel_rfl) rfl (fun _ _ _ _ _ _ h=>h _ _) (fun _ _ _ _ _=>by kernel_rfl) fun R kk e x0 x1 K=>by
 simp only[mD,TD,TE,TF,ahN (hF:=e),aem,aen,aE,<-e]
def Ht:Env:={e0 [.unit] with gr:=fun t=>bif Nat.beq t 87 then some (bM,y6) else none,ga:=fun t=>Nat.beq t 85}
def yJ:ah:=yI.add 15 [.unit] (FI (.aJ .bN bM y6) [[],[0],[0,2],[1],[1,2]] QR (fun _ r K=>K [tI r.1] (some ⟨(.aJ .bN bM y6),r.2,[[],[0],[0,2],[1],[1,2]]⟩)))
theorem Z0:aO Tryz.prog yJ:=RJ Ht Tryz.f15 (fun R kk x0 K=>Du x0 (fun a0 a1=>K [tI a0] (some ⟨(.aJ .bN bM y6),a1,[[],[0],[0,2],[1],[1,2]]⟩))) ZZ ((ek _ _ _ _).bN 87 85 bM y6 (by kernel_rfl) (by kernel_rfl) (by kernel_rfl) (by kernel_rfl)) Tryz.func15 (by kernel_rfl) rfl (fun _ _ _ _ _ _ h=>h _ _) (fun _ _ _ _=>by kernel_rfl) fun R kk e x0 K=>by
 simp only[QR,Du,aE]
def Hk:Env:=e0 [.unit]
def yK:ah:=yJ.add 44 [.unit] (FI y6 [[2]] XZ (fun _ r K=>K [tB r.1] (some ⟨y6,r.2,[[2]]⟩)))
theorem Z1:aO Tryz.prog yK:=RJ Hk Tryz.f44 (fun R kk x0 K=>Dq x0 (fun a0 a1=>K [tB a0] (some ⟨y6,a1,[[2]]⟩))) Z0 (ek _ _ _ _) Tryz.func44 (by kernel_rfl) rfl (fun _ _ _ _ _ _ h=>h _ _) (fun _ _ _ _=>by kernel_rfl) fun R kk e x0 K=>by
 simp only[XZ,Dq,aE]
def Hs:Env:={e0 [.unit,(.int .i64)] with gr:=fun t=>bif Nat.beq t 87 then some (bM,y6) else none,ga:=fun t=>Nat.beq t 85}
def yL:ah:=yK.add 17 [.unit,(.int .i64)] (Co (.aJ .bN bM y6) [[],[0],[0,2],[1],[1,2]] (.int .i64) Fj (fun _ r K=>K [tB r.1] (some ⟨(.aJ .bN bM y6),r.2,[[],[0],[0,2],[1],[1,2]]⟩)))
theorem Z2:aO Tryz.prog yL:=Kl Hs Tryz.f17 (fun R kk x0 x1 K=>Dt x0 x1 (fun a0 a1=>K [tB a0] (some ⟨(.aJ .bN bM y6),a1,[[],[0],[0,2],[1],[1,2]]⟩))) Z1 ((ek _ _ _ _).bN 87 85 bM y6 (by kernel_rfl) (by kernel_rfl) (by kernel_rfl) (by kernel_rfl)) Tryz.func17 (by kernel_rfl) rfl (fun _ _ _ _ _ _ h=>h _ _) (fun _ _ _ _ _=>by kernel_rfl) fun R kk e x0 x1 K=>by
 simp only[Fj,Dt,aE]
def Hl:Env:=e0 [.unit]
def yM:ah:=yL.add 43 [.unit] (FI y6 [[2]] X2 (fun _ r K=>K [tI r.1] (some ⟨y6,r.2,[[2]]⟩)))
theorem Z3:aO Tryz.prog yM:=RJ Hl Tryz.f43 (fun R kk x0 K=>Ds x0 (fun a0 a1=>K [tI a0] (some ⟨y6,a1,[[2]]⟩))) Z2 (ek _ _ _ _) Tryz.func43 (by kernel_rfl) rfl (fun _ _ _ _ _ _ h=>h _ _) (fun _ _ _ _=>by kernel_rfl) fun R kk e x0 K=>by
 simp only[X2,Ds,aE]
def Hu:Env:={e0 [.unit,(.int .i64)] with gr:=fun t=>bif Nat.beq t 87 then some (bM,y6) else none,ga:=fun t=>Nat.beq t 85}
def yN:ah:=yM.add 16 [.unit,(.int .i64)] (Co (.aJ .bN bM y6) [[],[0],[0,2],[1],[1,2]] (.int .i64) QS (fun _ r K=>K [tI r.1] (some ⟨(.aJ .bN bM y6),r.2,[[],[0],[0,2],[1],[1,2]]⟩)))
theorem Z4:aO Tryz.prog yN:=Kl Hu Tryz.f16 (fun R kk x0 x1 K=>z152 x0 x1 (fun a0 a1=>K [tI a0] (some ⟨(.aJ .bN bM y6),a1,[[],[0],[0,2],[1],[1,2]]⟩))) Z3 ((ek _ _ _ _).bN 87 85 bM y6 (by kernel_rfl) (by kernel_rfl) (by kernel_rfl) (by kernel_rfl)) Tryz.func16 (by kernel_rfl) rfl (fun _ _ _ _ _ _ h=>h _ _) (fun _ _ _ _ _=>by kernel_rfl) fun R kk e x0 x1 K=>by
 simp only[QS,z152,aE]
def Hz:Env:=e0 []
def pN:ah:=yN.add 10 [] (FJ gH (fun _ r K=>K [tB r] none))
theorem Z5:aO Tryz.prog pN:=Kn Hz Tryz.f10 (fun R kk K=>z157 (fun a0=>K [tB a0] none)) Z4 (ek _ _ _ _) Tryz.func10 (by kernel_rfl) rfl (fun _ _ _ _ _ _ h=>h _ _) (fun _ _ _=>by kernel_rfl) fun R kk e K=>by
 simp only[gH,z157,aE]
def VN:Env:=b9.env (fun i=>bif Nat.beq i 4 then [1,3] else []) (fun i=>bif Nat.beq i 4 then [2] else []) [] [cw]
def Te(a:Int)(b:ar):Option R:=aB (ev VN (pN R) kk (sub [1,1,0,1,0,0] (cd Tryz.f34))) [1,3] [2] k ⟨uS 1 ([.ptr 2 cw []]::uS 1 ([tI a]::uS 32 [])),nS 2 ((some ⟨cw,b,[]⟩)::nS 34 [])⟩ J
def zek(a:Bool):State:=⟨uS 2 ([tB a]::uS 33 []),nS 37 []⟩
def zel:State:=⟨uS 36 [],nS 37 []⟩
def zx6:KX R:=(zj 0 (aT VN (pN R) kk (sub [1,1,1] (cd Tryz.f34)) (aS VN Tryz.f34.results.toList none K)))
theorem akJ(a:Int)(b:ar):Te R kk (k+1) J a b=
 zx7 a b (fun a0=>J .ret (zek a0)) (Te R kk k J) (J (.exit 0) (zel)):=by kernel_rfl
theorem ad8(a:Bool):zx6 R kk K .ret (zek a)=
 zx8 a (fun a0=>K [tB a0] none):=by kernel_rfl
theorem ad9:zx6 R kk K (.exit 0) (zel)=
 zx9 (fun a0=>K [tB a0] none):=by kernel_rfl
theorem ahE{kk:Nat}(hF:kk=ag)(t3:Int)(cX:ar):Te R kk k J t3 cX=(Pv k t3 cX).bind fun e=>(Sum.elim (fun(we:Bool)=>J .ret (zek we)) (fun(we:Unit)=>J (.exit 0) (zel)) e):=by
 induction k generalizing t3 cX with
 |zero=>rfl
 |succ k ih=>
  rw[akJ]
  simp only[Pv,zx7,ih,aE]
def pO:ah:=pN.add 34 [cw] (cK cw mB (fun _ r K=>K [tB r] none))
theorem Z6:aO Tryz.prog pO:=cN VN Tryz.f34 (fun R kk x0 K=>Tf x0 (fun a0=>K [tB a0] none) (Te R kk kk (zx6 R kk K))) Z5 (ek _ _ _ _) Tryz.func34 (by kernel_rfl) rfl (fun _ _ _ _ _ _ h=>h _ _) (fun _ _ _ _=>by kernel_rfl) fun R kk e x0 K=>by
 simp only[mB,Tf,zx8,zx9,ahE (hF:=e),ad8,ad9,aE,<-e]
def VJ:Env:=b9.env (fun i=>bif Nat.beq i 4 then [1,3] else []) (fun i=>bif Nat.beq i 4 then [2] else []) [] [cA]
def SP(a:Int)(b:aF):Option R:=aB (ev VJ (pO R) kk (sub [1,1,0,1,0,0] (cd Tryz.f54))) [1,3] [2] k ⟨uS 1 ([.ptr 2 cA []]::uS 1 ([tI a]::uS 35 [])),nS 2 ((some ⟨cA,b,[]⟩)::nS 37 [])⟩ J
def ze4(a:Bool):State:=⟨uS 2 ([tB a]::uS 36 []),nS 40 []⟩
def ze5:State:=⟨uS 39 [],nS 40 []⟩
def zwk:KX R:=(zj 0 (aT VJ (pO R) kk (sub [1,1,1] (cd Tryz.f54)) (aS VJ Tryz.f54.results.toList none K)))
theorem akA(a:Int)(b:aF):SP R kk (k+1) J a b=
 Pm a b (fun a0=>J .ret (ze4 a0)) (SP R kk k J) (J (.exit 0) (ze5)):=by kernel_rfl
theorem adR(a:Bool):zwk R kk K .ret (ze4 a)=
 zwl a (fun a0=>K [tB a0] none):=by kernel_rfl
theorem adS:zwk R kk K (.exit 0) (ze5)=
 zwm (fun a0=>K [tB a0] none):=by kernel_rfl
theorem ahv{kk:Nat}(hF:kk=ag)(t3:Int)(cX:aF):SP R kk k J t3 cX=(xS k t3 cX).bind fun e=>(Sum.elim (fun(we:Bool)=>J .ret (ze4 we)) (fun(we:Unit)=>J (.exit 0) (ze5)) e):=by
 induction k generalizing t3 cX with
 |zero=>rfl
 |succ k ih=>
  rw[akA]
  simp only[xS,Pm,ih,aE]
def kR:ah:=pO.add 54 [cA] (cK cA nP (fun _ r K=>K [tB r] none))
theorem Z7:aO Tryz.prog kR:=cN VJ Tryz.f54 (fun R kk x0 K=>SQ x0 (fun a0=>K [tB a0] none) (SP R kk kk (zwk R kk K))) Z6 (ek _ _ _ _) Tryz.func54 (by kernel_rfl) rfl (fun _ _ _ _ _ _ h=>h _ _) (fun _ _ _ _=>by kernel_rfl) fun R kk e x0 K=>by
 simp only[nP,SQ,zwl,zwm,ahv (hF:=e),adR,adS,aE,<-e]
def EY:Env:=b9.env (fun i=>bif Nat.beq i 4 then [1,3] else bif Nat.beq i 9 then [1,4] else []) (fun i=>bif Nat.beq i 4 then [1,2] else bif Nat.beq i 9 then [2] else []) [] [cD]
def S1(a:Int)(b:ay):Option R:=aB (ev EY (kR R) kk (sub [1,1,0,1,0,0] (cd Tryz.f35))) [1,3] [1,2] k ⟨uS 1 ([.ptr 2 cD []]::uS 1 ([tI a]::uS 49 [])),nS 2 ((some ⟨cD,b,[]⟩)::nS 51 [])⟩ J
def zec(a:Bool)(b:ay):State:=⟨uS 1 ([.ptr 2 cD []]::[tB a]::uS 50 []),nS 2 ((some ⟨cD,b,[]⟩)::nS 51 [])⟩
def zed(a:ay):State:=⟨uS 1 ([.ptr 2 cD []]::uS 51 []),nS 2 ((some ⟨cD,a,[]⟩)::nS 51 [])⟩
def zww:KX R:=(zj 0 (aT EY (kR R) kk (sub [1,1,1] (cd Tryz.f35)) (aS EY Tryz.f35.results.toList none K)))
def S3(a:Int)(b:ay):Option R:=aB (ev EY (kR R) kk (sub [1,1,1,0,1,0,0] (cd Tryz.f35))) [1,4] [2] k ⟨uS 1 ([.ptr 2 cD []]::uS 2 ([tI a]::uS 48 [])),nS 2 ((some ⟨cD,b,[]⟩)::nS 51 [])⟩ J
def zee(a:Bool):State:=⟨uS 2 ([tB a]::uS 50 []),nS 54 []⟩
def zef:State:=⟨uS 53 [],nS 54 []⟩
def zwx:KX R:=(zj 2 (aT EY (kR R) kk (sub [1,1,1,1] (cd Tryz.f35)) (aS EY Tryz.f35.results.toList none K)))
theorem akF(a:Int)(b:ay):S1 R kk (k+1) J a b=
 Ps a b (fun a0 a1=>J .ret (zec a0 a1)) (S1 R kk k J) (fun a0=>J (.exit 0) (zed a0)):=by kernel_rfl
theorem ad0(a:Bool)(b:ay):zww R kk K .ret (zec a b)=
 zwy a b (fun a0=>K [tB a0] none):=by kernel_rfl
theorem ad1(a:ay):zww R kk K (.exit 0) (zed a)=
 S5 a (S3 R kk kk (zwx R kk K)):=by kernel_rfl
theorem akG(a:Int)(b:ay):S3 R kk (k+1) J a b=
 zwz a b (fun a0=>J .ret (zee a0)) (S3 R kk k J) (J (.exit 2) (zef)):=by kernel_rfl
theorem ad2(a:Bool):zwx R kk K .ret (zee a)=
 zx0 a (fun a0=>K [tB a0] none):=by kernel_rfl
theorem ad3:zwx R kk K (.exit 2) (zef)=
 zx1 (fun a0=>K [tB a0] none):=by kernel_rfl
theorem ahA{kk:Nat}(hF:kk=ag)(t3:Int)(cX:ay):S1 R kk k J t3 cX=(xT k t3 cX).bind fun e=>(Sum.elim (fun(we:(Bool×ay))=>J .ret (zec we.1 we.2)) (fun(we:ay)=>J (.exit 0) (zed we)) e):=by
 induction k generalizing t3 cX with
 |zero=>rfl
 |succ k ih=>
  rw[akF]
  simp only[xT,Ps,ih,aE]
theorem ahB{kk:Nat}(hF:kk=ag)(t4:Int)(cX:ay):S3 R kk k J t4 cX=(Pr k t4 cX).bind fun e=>(Sum.elim (fun(we:Bool)=>J .ret (zee we)) (fun(we:Unit)=>J (.exit 2) (zef)) e):=by
 induction k generalizing t4 cX with
 |zero=>rfl
 |succ k ih=>
  rw[akG]
  simp only[Pr,zwz,ih,aE]
def yO:ah:=kR.add 35 [cD] (cK cD lE (fun _ r K=>K [tB r] none))
theorem Z8:aO Tryz.prog yO:=cN EY Tryz.f35 (fun R kk x0 K=>S4 x0 (fun a0=>K [tB a0] none) (S1 R kk kk (zww R kk K))) Z7 (ek _ _ _ _) Tryz.func35 (by kernel_rfl) rfl (fun _ _ _ _ _ _ h=>h _ _) (fun _ _ _ _=>by kernel_rfl) fun R kk e x0 K=>by
 simp only[lE,S4,zwy,S5,zx0,zx1,ahA (hF:=e),ahB (hF:=e),ad0,ad1,ad2,ad3,aE,<-e]
def amP:Env:=e0 [bM]
def pP:ah:=yO.add 11 [bM] (cK bM nQ (fun _ r K=>K [tB r] none))
theorem aac:aO Tryz.prog pP:=cN amP Tryz.f11 (fun R kk x0 K=>Tn x0 (fun a0=>K [tB a0] none)) Z8 (ek _ _ _ _) Tryz.func11 (by kernel_rfl) rfl (fun _ _ _ _ _ _ h=>h _ _) (fun _ _ _ _=>by kernel_rfl) fun R kk e x0 K=>by
 simp only[nQ,Tn,aE]
def VW:Env:=b9.env (fun i=>bif Nat.beq i 3 then [0,1,5,6] else []) (fun i=>bif Nat.beq i 3 then [1,4,5] else []) [] [(.sl 57 (.pair (.int .i64) (.pair .str .unit))),(.int .i64)]
def TB(a:ak)(b c d:Int):Option R:=aB (ev VW (pP R) kk (sub [1,1,0,1,0,0] (cd Tryz.f19))) [0,1,5,6] [1,4,5] k ⟨[.aj (.sl 57 (.pair (.int .i64) (.pair .str .unit))) a []]::[tI b]::uS 3 ([tI c]::[tI d]::uS 32 []),nS 40 []⟩ J
def zex(a:Int)(b:Bool)(c:Int):State:=⟨uS 1 ([tI a]::uS 2 ([tB b]::[tI c]::uS 33 [])),nS 40 []⟩
def zey(a b:Int):State:=⟨uS 1 ([tI a]::uS 3 ([tI b]::uS 33 [])),nS 40 []⟩
def zxr:KX R:=(zj 0 (aT VW (pP R) kk (sub [1,1,1] (cd Tryz.f19)) (aS VW Tryz.f19.results.toList none K)))
theorem akR(a:ak)(b c d:Int):TB R kk (k+1) J a b c d=
 EK a b c d (fun a0 a1 a2=>J .ret (zex a0 a1 a2)) (TB R kk k J) (fun a0 a1=>J (.exit 0) (zey a0 a1)):=by kernel_rfl
theorem aek(a:Int)(b:Bool)(c:Int):zxr R kk K .ret (zex a b c)=
 zxs a b c (fun a0=>K [tB a0] none):=by kernel_rfl
theorem ael(a b:Int):zxr R kk K (.exit 0) (zey a b)=
 zxt a b (fun a0=>K [tB a0] none):=by kernel_rfl
theorem ahM{kk:Nat}(hF:kk=ag)(fh:ak)(gT t5 t6:Int):TB R kk k J fh gT t5 t6=(Pz k fh gT t5 t6).bind fun e=>(Sum.elim (fun(we:zO)=>J .ret (zex we.1 we.2.1 we.2.2)) (fun(we:(Int×Int))=>J (.exit 0) (zey we.1 we.2)) e):=by
 induction k generalizing fh gT t5 t6 with
 |zero=>rfl
 |succ k ih=>
  rw[akR]
  simp only[Pz,EK,ih,aE]
def yP:ah:=pP.add 19 [(.sl 57 (.pair (.int .i64) (.pair .str .unit))),(.int .i64)] (dv (.sl 57 (.pair (.int .i64) (.pair .str .unit))) (.int .i64) mC (fun _ r K=>K [tB r] none))
theorem aad:aO Tryz.prog yP:=dz VW Tryz.f19 (fun R kk x0 x1 K=>PA x0 x1 (TB R kk kk (zxr R kk K))) aac (ek _ _ _ _) Tryz.func19 (by kernel_rfl) rfl (fun _ _ _ _ _ _ h=>h _ _) (fun _ _ _ _ _=>by kernel_rfl) fun R kk e x0 x1 K=>by
 simp only[mC,PA,zxs,zxt,ahM (hF:=e),aek,ael,aE,<-e]
def HM:Env:=e0 [cJ]
def pQ:ah:=yP.add 109 [cJ] (cK cJ yu (fun _ r K=>K [tI r] none))
theorem aae:aO Tryz.prog pQ:=cN HM Tryz.f109 (fun R kk x0 K=>Xx x0 (fun a0=>K [tI a0] none)) aad (ek _ _ _ _) Tryz.func109 (by kernel_rfl) rfl (fun _ _ _ _ _ _ h=>h _ _) (fun _ _ _ _=>by kernel_rfl) fun R kk e x0 K=>by
 simp only[yu,Xx,aE]
def pw:Env:=b9.env (fun i=>bif Nat.beq i 7 then [1,4,5] else []) (fun i=>bif Nat.beq i 7 then [2,3] else []) [] [aK]
def Xy(a b:Int)(c:af):Option R:=aB (ev pw (pQ R) kk (sub [1,1,1,1,0,1,0,0] (cd Tryz.f108))) [1,4,5] [2,3] k ⟨uS 1 ([.ptr 2 aK []]::uS 2 ([tI a]::[tI b]::uS 49 [])),nS 2 ((some ⟨aK,c,[]⟩)::nS 53 [])⟩ J
def zpp(a b:Int):State:=⟨uS 2 ([tI a]::[tI b]::uS 51 []),nS 56 []⟩
def zpq:State:=⟨uS 55 [],nS 56 []⟩
def DT:KX R:=(zj 0 (aT pw (pQ R) kk (sub [1,1,1,1,1] (cd Tryz.f108)) (aS pw Tryz.f108.results.toList none K)))
theorem anT(a b:Int)(c:af):Xy R kk (k+1) J a b c=
 Qz a b c (fun a0 a1=>J .ret (zpp a0 a1)) (Xy R kk k J) (J (.exit 0) (zpq)):=by kernel_rfl
theorem aiQ(a b:Int):DT R kk K .ret (zpp a b)=
 Xz a b (fun a0 a1=>K [tI a0,tI a1] none):=by kernel_rfl
theorem aiR:DT R kk K (.exit 0) (zpq)=
 XA (fun a0 a1=>K [tI a0,tI a1] none):=by kernel_rfl
theorem alP{kk:Nat}(hF:kk=ag)(t4 t5:Int)(cX:af):Xy R kk k J t4 t5 cX=(xY k t4 t5 cX).bind fun e=>(Sum.elim (fun(we:(Int×Int))=>J .ret (zpp we.1 we.2)) (fun(we:Unit)=>J (.exit 0) (zpq)) e):=by
 induction k generalizing t4 t5 cX with
 |zero=>rfl
 |succ k ih=>
  rw[anT]
  simp only[xY,Qz,ih,aE]
def yQ:ah:=pQ.add 108 [aK] (cK aK HQ (fun _ r K=>K [tI r.1,tI r.2] none))
theorem aaf:aO Tryz.prog yQ:=cN pw Tryz.f108 (fun R kk x0 K=>GD x0 (fun a0 a1=>K [tI a0,tI a1] none) (fun a0 a1 a2=>Xy R kk kk (DT R kk K) a0 a1 a2)) aae (ek _ _ _ _) Tryz.func108 (by kernel_rfl) rfl (fun _ _ _ _ _ _ h=>h _ _) (fun _ _ _ _=>by kernel_rfl) fun R kk e x0 K=>by
 simp only[HQ,abU,Xz,XA,alP (hF:=e),aiQ,aiR,aE,<-e]
def HT:Env:=e0 [aK]
def pR:ah:=yQ.add 77 [aK] (cK aK Bq (fun _ r K=>K [tB r] none))
theorem aag:aO Tryz.prog pR:=cN HT Tryz.f77 (fun R kk x0 K=>XE x0 (fun a0=>K [tB a0] none)) aaf (ek _ _ _ _) Tryz.func77 (by kernel_rfl) rfl (fun _ _ _ _ _ _ h=>h _ _) (fun _ _ _ _=>by kernel_rfl) fun R kk e x0 K=>by
 simp only[Bq,XE,aE]
def pA:Env:=b9.env (fun i=>bif Nat.beq i 2 then [1,2,5] else []) (fun i=>bif Nat.beq i 2 then [4] else []) [] [aK,(.int .i64)]
def XC(a b:Int)(c:af):Option R:=aB (ev pA (pR R) kk (sub [1,0,1,0,0] (cd Tryz.f78))) [1,2,5] [4] k ⟨uS 1 ([tI a]::[.ptr 3 aK []]::uS 2 ([tI b]::uS 16 [])),nS 3 ((some ⟨aK,c,[]⟩)::nS 19 [])⟩ J
def zpr(a:Int):State:=⟨uS 4 ([tI a]::uS 17 []),nS 23 []⟩
def zps:State:=⟨uS 22 [],nS 23 []⟩
def DU:KX R:=(zj 0 (aT pA (pR R) kk (sub [1,1] (cd Tryz.f78)) (aS pA Tryz.f78.results.toList none K)))
theorem anU(a b:Int)(c:af):XC R kk (k+1) J a b c=
 DV a b c (fun a0=>J .ret (zpr a0)) (XC R kk k J) (J (.exit 0) (zps)):=by kernel_rfl
theorem aiS(a:Int):DU R kk K .ret (zpr a)=
 DW a (fun a0=>K [tI a0] none):=by kernel_rfl
theorem aiT:DU R kk K (.exit 0) (zps)=
 DX (fun a0=>K [tI a0] none):=by kernel_rfl
theorem alQ{kk:Nat}(hF:kk=ag)(fk t5:Int)(dB:af):XC R kk k J fk t5 dB=(QA k fk t5 dB).bind fun e=>(Sum.elim (fun(we:Int)=>J .ret (zpr we)) (fun(we:Unit)=>J (.exit 0) (zps)) e):=by
 induction k generalizing fk t5 dB with
 |zero=>rfl
 |succ k ih=>
  rw[anU]
  simp only[QA,DV,ih,aE]
def pS:ah:=pR.add 78 [aK,(.int .i64)] (dv aK (.int .i64) yx (fun _ r K=>K [tI r] none))
theorem aah:aO Tryz.prog pS:=dz pA Tryz.f78 (fun R kk x0 x1 K=>XD x0 x1 (XC R kk kk (DU R kk K))) aag (ek _ _ _ _) Tryz.func78 (by kernel_rfl) rfl (fun _ _ _ _ _ _ h=>h _ _) (fun _ _ _ _ _=>by kernel_rfl) fun R kk e x0 x1 K=>by
 simp only[yx,XD,DW,DX,alQ (hF:=e),aiS,aiT,aE,<-e]
def ph:Env:=b9.env (fun i=>bif Nat.beq i 2 then [0,1,5] else []) (fun i=>bif Nat.beq i 2 then [4] else []) [] [(.sl 3 (.int .i64)),(.int .i64)]
def Xs(a:(List Int))(b c:Int):Option R:=aB (ev ph (pS R) kk (sub [1,0,1,0,0] (cd Tryz.f79))) [0,1,5] [4] k ⟨[.aj (.sl 3 (.int .i64)) a []]::[tI b]::uS 3 ([tI c]::uS 12 []),nS 19 []⟩ J
def zpj(a:Bool):State:=⟨uS 4 ([tB a]::uS 13 []),nS 19 []⟩
def zpk:State:=⟨uS 18 [],nS 19 []⟩
def DJ:KX R:=(zj 0 (aT ph (pS R) kk (sub [1,1] (cd Tryz.f79)) (aS ph Tryz.f79.results.toList none K)))
theorem anO(a:(List Int))(b c:Int):Xs R kk (k+1) J a b c=
 Qt a b c (fun a0=>J .ret (zpj a0)) (Xs R kk k J) (J (.exit 0) (zpk)):=by kernel_rfl
theorem aiK(a:Bool):DJ R kk K .ret (zpj a)=
 DK a (fun a0=>K [tB a0] none):=by kernel_rfl
theorem aiL:DJ R kk K (.exit 0) (zpk)=
 DL (fun a0=>K [tB a0] none):=by kernel_rfl
theorem alK{kk:Nat}(hF:kk=ag)(fh:(List Int))(l6 t5:Int):Xs R kk k J fh l6 t5=(E8 k fh l6 t5).bind fun e=>(Sum.elim (fun(we:Bool)=>J .ret (zpj we)) (fun(we:Unit)=>J (.exit 0) (zpk)) e):=by
 induction k generalizing fh l6 t5 with
 |zero=>rfl
 |succ k ih=>
  rw[anO]
  simp only[E8,Qt,ih,aE]
def pT:ah:=pS.add 79 [(.sl 3 (.int .i64)),(.int .i64)] (dv (.sl 3 (.int .i64)) (.int .i64) HG (fun _ r K=>K [tB r] none))
theorem aai:aO Tryz.prog pT:=dz ph Tryz.f79 (fun R kk x0 x1 K=>Xt x0 x1 (Xs R kk kk (DJ R kk K))) aah (ek _ _ _ _) Tryz.func79 (by kernel_rfl) rfl (fun _ _ _ _ _ _ h=>h _ _) (fun _ _ _ _ _=>by kernel_rfl) fun R kk e x0 x1 K=>by
 simp only[HG,Xt,DK,DL,alK (hF:=e),aiK,aiL,aE,<-e]
def VO:Env:=b9.env (fun i=>bif Nat.beq i 2 then [0,1,2,7] else []) (fun i=>bif Nat.beq i 2 then [6] else []) [] [(.sl 107 (.pair (.int .i64) (.pair .str .unit))),(.int .i64),(.int .i64)]
def Th(a:ak)(b c d:Int):Option R:=aB (ev VO (pT R) kk (sub [1,0,1,0,0] (cd Tryz.f80))) [0,1,2,7] [6] k ⟨[.aj (.sl 107 (.pair (.int .i64) (.pair .str .unit))) a []]::[tI b]::[tI c]::uS 4 ([tI d]::uS 13 []),nS 22 []⟩ J
def zem(a:Int):State:=⟨uS 6 ([tI a]::uS 14 []),nS 22 []⟩
def zen:State:=⟨uS 21 [],nS 22 []⟩
def zxa:KX R:=(zj 0 (aT VO (pT R) kk (sub [1,1] (cd Tryz.f80)) (aS VO Tryz.f80.results.toList none K)))
theorem akK(a:ak)(b c d:Int):Th R kk (k+1) J a b c d=
 Pw a b c d (fun a0=>J .ret (zem a0)) (Th R kk k J) (J (.exit 0) (zen)):=by kernel_rfl
theorem aea(a:Int):zxa R kk K .ret (zem a)=
 zxb a (fun a0=>K [tI a0] none):=by kernel_rfl
theorem aeb:zxa R kk K (.exit 0) (zen)=
 zxc (fun a0=>K [tI a0] none):=by kernel_rfl
theorem ahF{kk:Nat}(hF:kk=ag)(fh:ak)(l6 Yh t7:Int):Th R kk k J fh l6 Yh t7=(EF k fh l6 Yh t7).bind fun e=>(Sum.elim (fun(we:Int)=>J .ret (zem we)) (fun(we:Unit)=>J (.exit 0) (zen)) e):=by
 induction k generalizing fh l6 Yh t7 with
 |zero=>rfl
 |succ k ih=>
  rw[akK]
  simp only[EF,Pw,ih,aE]
def yR:ah:=pT.add 80 [(.sl 107 (.pair (.int .i64) (.pair .str .unit))),(.int .i64),(.int .i64)] (kh (.sl 107 (.pair (.int .i64) (.pair .str .unit))) (.int .i64) (.int .i64) qA (fun _ r K=>K [tI r] none))
theorem aaj:aO Tryz.prog yR:=ku VO Tryz.f80 (fun R kk x0 x1 x2 K=>Ti x0 x1 x2 (Th R kk kk (zxa R kk K))) aai (ek _ _ _ _) Tryz.func80 (by kernel_rfl) rfl (fun _ _ _ _ _ _ h=>h _ _) (fun _ _ _ _ _ _=>by kernel_rfl) fun R kk e x0 x1 x2 K=>by
 simp only[qA,Ti,zxb,zxc,ahF (hF:=e),aea,aeb,aE,<-e]
def HF:Env:=e0 [(.int .i64),(.int .u8)]
def pU:ah:=yR.add 158 [(.int .i64),(.int .u8)] (dv (.int .i64) (.int .u8) ym (fun _ r K=>K [tB r] none))
theorem aak:aO Tryz.prog pU:=dz HF Tryz.f158 (fun R kk x0 x1 K=>Xn x0 x1 (fun a0=>K [tB a0] none)) aaj (ek _ _ _ _) Tryz.func158 (by kernel_rfl) rfl (fun _ _ _ _ _ _ h=>h _ _) (fun _ _ _ _ _=>by kernel_rfl) fun R kk e x0 x1 K=>by
 simp only[ym,Xn,aE]
def pf:Env:=b9.env (fun i=>bif Nat.beq i 2 then [0,1,5] else []) (fun i=>bif Nat.beq i 2 then [4] else []) [] [(.int .i64),.str]
def Xl(a:Int)(b:ByteArray)(c:Int):Option R:=aB (ev pf (pU R) kk (sub [1,0,1,0,0] (cd Tryz.f110))) [0,1,5] [4] k ⟨[tI a]::[tS b]::uS 3 ([tI c]::uS 13 []),nS 20 []⟩ J
def zpf(a:Int):State:=⟨uS 4 ([tI a]::uS 14 []),nS 20 []⟩
def zpg:State:=⟨uS 19 [],nS 20 []⟩
def DB:KX R:=(zj 0 (aT pf (pU R) kk (sub [1,1] (cd Tryz.f110)) (aS pf Tryz.f110.results.toList none K)))
theorem anM(a:Int)(b:ByteArray)(c:Int):Xl R kk (k+1) J a b c=
 Qs a b c (fun a0=>J .ret (zpf a0)) (Xl R kk k J) (J (.exit 0) (zpg)):=by kernel_rfl
theorem aiG(a:Int):DB R kk K .ret (zpf a)=
 DC a (fun a0=>K [tI a0] none):=by kernel_rfl
theorem aiH:DB R kk K (.exit 0) (zpg)=
 DE (fun a0=>K [tI a0] none):=by kernel_rfl
theorem alI{kk:Nat}(hF:kk=ag)(lQ:Int)(kJ:ByteArray)(t5:Int):Xl R kk k J lQ kJ t5=(z93 k lQ kJ t5).bind fun e=>(Sum.elim (fun(we:Int)=>J .ret (zpf we)) (fun(we:Unit)=>J (.exit 0) (zpg)) e):=by
 induction k generalizing lQ kJ t5 with
 |zero=>rfl
 |succ k ih=>
  rw[anM]
  simp only[z93,Qs,ih,aE]
def yS:ah:=pU.add 110 [(.int .i64),.str] (dv (.int .i64) .str HE (fun _ r K=>K [tI r] none))
theorem aal:aO Tryz.prog yS:=dz pf Tryz.f110 (fun R kk x0 x1 K=>Xm x0 x1 (Xl R kk kk (DB R kk K))) aak (ek _ _ _ _) Tryz.func110 (by kernel_rfl) rfl (fun _ _ _ _ _ _ h=>h _ _) (fun _ _ _ _ _=>by kernel_rfl) fun R kk e x0 x1 K=>by
 simp only[HE,Xm,DC,DE,alI (hF:=e),aiG,aiH,aE,<-e]
def HI:Env:=e0 [(.int .u8)]
def yT:ah:=yS.add 207 [(.int .u8)] (cK (.int .u8) yp (fun _ r K=>K [tI r] none))
theorem aam:aO Tryz.prog yT:=cN HI Tryz.f207 (fun R kk x0 K=>DM x0 (fun a0=>K [tI a0] none)) aal (ek _ _ _ _) Tryz.func207 (by kernel_rfl) rfl (fun _ _ _ _ _ _ h=>h _ _) (fun _ _ _ _=>by kernel_rfl) fun R kk e x0 K=>by
 simp only[yp,DM,aE]
def HJ:Env:=e0 [.str,(.int .i64)]
def yU:ah:=yT.add 159 [.str,(.int .i64)] (dv .str (.int .i64) yq (fun _ r K=>K [tI r.1,tI r.2.1,tI r.2.2] none))
theorem aan:aO Tryz.prog yU:=dz HJ Tryz.f159 (fun R kk x0 x1 K=>Qu x0 x1 (fun a0 a1 a2=>K [tI a0,tI a1,tI a2] none)) aam (ek _ _ _ _) Tryz.func159 (by kernel_rfl) rfl (fun _ _ _ _ _ _ h=>h _ _) (fun _ _ _ _ _=>by kernel_rfl) fun R kk e x0 x1 K=>by
 simp only[yq,Qu,aE]
def HK:Env:=e0 [.str,(.int .i64)]
def pV:ah:=yU.add 160 [.str,(.int .i64)] (dv .str (.int .i64) yr (fun _ r K=>K [tI r.1,tI r.2.1,tI r.2.2] none))
theorem aao:aO Tryz.prog pV:=dz HK Tryz.f160 (fun R kk x0 x1 K=>Qv x0 x1 (fun a0 a1 a2=>K [tI a0,tI a1,tI a2] none)) aan (ek _ _ _ _) Tryz.func160 (by kernel_rfl) rfl (fun _ _ _ _ _ _ h=>h _ _) (fun _ _ _ _ _=>by kernel_rfl) fun R kk e x0 x1 K=>by
 simp only[yr,Qv,aE]
def po:Env:=b9.env (fun i=>bif Nat.beq i 2 then [0,1,2,7] else []) (fun i=>bif Nat.beq i 2 then [6] else []) [] [(.sl 245 (.pair (.int .i64) (.pair .str .unit))),(.int .i64),(.int .i64)]
def Xv(a:ak)(b c d:Int):Option R:=aB (ev po (pV R) kk (sub [1,0,1,0,0] (cd Tryz.f161))) [0,1,2,7] [6] k ⟨[.aj (.sl 245 (.pair (.int .i64) (.pair .str .unit))) a []]::[tI b]::[tI c]::uS 4 ([tI d]::uS 12 []),nS 21 []⟩ J
def zpn(a:Bool):State:=⟨uS 6 ([tB a]::uS 13 []),nS 21 []⟩
def zpo:State:=⟨uS 20 [],nS 21 []⟩
def DQ:KX R:=(zj 0 (aT po (pV R) kk (sub [1,1] (cd Tryz.f161)) (aS po Tryz.f161.results.toList none K)))
theorem anR(a:ak)(b c d:Int):Xv R kk (k+1) J a b c d=
 Qy a b c d (fun a0=>J .ret (zpn a0)) (Xv R kk k J) (J (.exit 0) (zpo)):=by kernel_rfl
theorem aiO(a:Bool):DQ R kk K .ret (zpn a)=
 DR a (fun a0=>K [tB a0] none):=by kernel_rfl
theorem aiP:DQ R kk K (.exit 0) (zpo)=
 DS (fun a0=>K [tB a0] none):=by kernel_rfl
theorem alN{kk:Nat}(hF:kk=ag)(fh:ak)(l6 uB t7:Int):Xv R kk k J fh l6 uB t7=(E9 k fh l6 uB t7).bind fun e=>(Sum.elim (fun(we:Bool)=>J .ret (zpn we)) (fun(we:Unit)=>J (.exit 0) (zpo)) e):=by
 induction k generalizing fh l6 uB t7 with
 |zero=>rfl
 |succ k ih=>
  rw[anR]
  simp only[E9,Qy,ih,aE]
def pW:ah:=pV.add 161 [(.sl 245 (.pair (.int .i64) (.pair .str .unit))),(.int .i64),(.int .i64)] (kh (.sl 245 (.pair (.int .i64) (.pair .str .unit))) (.int .i64) (.int .i64) HL (fun _ r K=>K [tB r] none))
theorem aap:aO Tryz.prog pW:=ku po Tryz.f161 (fun R kk x0 x1 x2 K=>Xw x0 x1 x2 (Xv R kk kk (DQ R kk K))) aao (ek _ _ _ _) Tryz.func161 (by kernel_rfl) rfl (fun _ _ _ _ _ _ h=>h _ _) (fun _ _ _ _ _ _=>by kernel_rfl) fun R kk e x0 x1 x2 K=>by
 simp only[HL,Xw,DR,DS,alN (hF:=e),aiO,aiP,aE,<-e]
def pn:Env:=b9.env (fun i=>bif Nat.beq i 3 then [0,5,6] else []) (fun i=>bif Nat.beq i 3 then [2,3,4,5] else []) [] [.str]
def Xu(a:ByteArray)(b:ak)(c:Int):Option R:=aB (ev pn (pW R) kk (sub [1,1,1,0,0,0] (cd Tryz.f111))) [0,5,6] [2,3,4,5] k ⟨[tS a]::uS 4 ([.aj (.sl 245 (.pair (.int .i64) (.pair .str .unit))) b [[]]]::[tI c]::uS 61 []),nS 69 []⟩ J
def zpl(a:ak)(b c:Int)(d:ak):State:=⟨uS 2 ([.aj (.sl 245 (.pair (.int .i64) (.pair .str .unit))) a [[]]]::[tI b]::[tI c]::[.aj (.sl 245 (.pair (.int .i64) (.pair .str .unit))) d [[]]]::uS 62 []),nS 69 []⟩
def zpm(a:ak):State:=⟨uS 5 ([.aj (.sl 245 (.pair (.int .i64) (.pair .str .unit))) a [[]]]::uS 62 []),nS 69 []⟩
def DN:KX R:=(zj 0 (aT pn (pW R) kk (sub [1,1,1,1] (cd Tryz.f111)) (aS pn Tryz.f111.results.toList none K)))
theorem anQ(a:ByteArray)(b:ak)(c:Int):Xu R kk (k+1) J a b c=
 Qx a b c (fun a0 a1 a2 a3=>J .ret (zpl a0 a1 a2 a3)) (Xu R kk k J) (fun a0=>J (.exit 0) (zpm a0)):=by kernel_rfl
theorem aiM(a:ak)(b c:Int)(d:ak):DN R kk K .ret (zpl a b c d)=
 DO a b c d (fun a0 a1 a2=>K [.aj (.sl 245 (.pair (.int .i64) (.pair .str .unit))) a0 [[]],tI a1,tI a2] none):=by kernel_rfl
theorem aiN(a:ak):DN R kk K (.exit 0) (zpm a)=
 DP a (fun a0 a1 a2=>K [.aj (.sl 245 (.pair (.int .i64) (.pair .str .unit))) a0 [],tI a1,tI a2] none):=by kernel_rfl
theorem alM{kk:Nat}(hF:kk=ag)(n8:ByteArray)(t5:ak)(t6:Int):Xu R kk k J n8 t5 t6=(Ba k n8 t5 t6).bind fun e=>(Sum.elim (fun(we:qL)=>J .ret (zpl we.1 we.2.1 we.2.2.1 we.2.2.2)) (fun(we:ak)=>J (.exit 0) (zpm we)) e):=by
 induction k generalizing n8 t5 t6 with
 |zero=>rfl
 |succ k ih=>
  rw[anQ]
  simp only[Ba,Qx,ih,aE]
def yV:ah:=pW.add 111 [.str] (cK .str yt (fun _ r K=>(Sum.elim (fun(wr:jm)=>K [.aj (.sl 245 (.pair (.int .i64) (.pair .str .unit))) wr.1 [[]],tI wr.2.1,tI wr.2.2] none) (fun(wr:jm)=>K [.aj (.sl 245 (.pair (.int .i64) (.pair .str .unit))) wr.1 [],tI wr.2.1,tI wr.2.2] none) r)))
theorem aaq:aO Tryz.prog yV:=cN pn Tryz.f111 (fun R kk x0 K=>Qw x0 (Xu R kk kk (DN R kk K))) aap (ek _ _ _ _) Tryz.func111 (by kernel_rfl) rfl (fun _ _ _ _ _ _ h=>Qc (fun _=>h _ _) (fun _=>h _ _)) (fun _ _ _ _=>by kernel_rfl) fun R kk e x0 K=>by
 simp only[yt,Qw,DO,DP,alM (hF:=e),aiM,aiN,aE,<-e]
def HN:Env:=e0 [cJ,.str]
def kS:ah:=yV.add 81 [cJ,.str] (dv cJ .str mJ (fun _ r K=>K [tI r] none))
theorem aar:aO Tryz.prog kS:=dz HN Tryz.f81 (fun R kk x0 x1 K=>Gz x0 x1 (fun a0=>K [tI a0] none)) aaq (ek _ _ _ _) Tryz.func81 (by kernel_rfl) rfl (fun _ _ _ _ _ _ h=>h _ _) (fun _ _ _ _ _=>by kernel_rfl) fun R kk e x0 x1 K=>by
 simp only[mJ,Gz,aE]
def EZ:Env:=b9.env (fun i=>bif Nat.beq i 7 then [1,5,6] else bif Nat.beq i 16 then [1,5,7] else []) (fun i=>bif Nat.beq i 7 then [1,2,3,4,5] else bif Nat.beq i 16 then [1,2,3,4] else []) [] [cw]
def S8(a b:Int)(c:ar):Option R:=aB (ev EZ (kS R) kk (sub [1,1,1,1,0,1,0,0] (cd Tryz.f60))) [1,5,6] [1,2,3,4,5] k ⟨uS 1 ([.ptr 2 cw []]::uS 3 ([tI a]::[tI b]::uS 109 [])),nS 2 ((some ⟨cw,c,[]⟩)::nS 114 [])⟩ J
def zeg(a b c d:Int)(e:ar):State:=⟨uS 1 ([.ptr 2 cw []]::[tI a]::[tI b]::[tI c]::[tI d]::uS 110 []),nS 2 ((some ⟨cw,e,[]⟩)::nS 114 [])⟩
def zeh(a:Int)(b:ar):State:=⟨uS 1 ([.ptr 2 cw []]::uS 3 ([tI a]::uS 110 [])),nS 2 ((some ⟨cw,b,[]⟩)::nS 114 [])⟩
def zx2:KX R:=(zj 0 (aT EZ (kS R) kk (sub [1,1,1,1,1] (cd Tryz.f60)) (aS EZ Tryz.f60.results.toList none K)))
def S9(a b:Int)(c:ar):Option R:=aB (ev EZ (kS R) kk (sub [1,1,1,1,1,0,1,0,0] (cd Tryz.f60))) [1,5,7] [1,2,3,4] k ⟨uS 1 ([.ptr 2 cw []]::uS 3 ([tI a]::uS 1 ([tI b]::uS 108 []))),nS 2 ((some ⟨cw,c,[]⟩)::nS 114 [])⟩ J
def zei(a b c:Int)(d:ar):State:=⟨uS 1 ([.ptr 2 cw []]::[tI a]::[tI b]::[tI c]::uS 111 []),nS 2 ((some ⟨cw,d,[]⟩)::nS 114 [])⟩
def zej(a:ar):State:=⟨uS 1 ([.ptr 2 cw []]::uS 114 []),nS 2 ((some ⟨cw,a,[]⟩)::nS 114 [])⟩
def zx3:KX R:=(zj 2 (aT EZ (kS R) kk (sub [1,1,1,1,1,1] (cd Tryz.f60)) (aS EZ Tryz.f60.results.toList none K)))
theorem akH(a b:Int)(c:ar):S8 R kk (k+1) J a b c=
 Pt a b c (fun a0 a1 a2 a3 a4=>J .ret (zeg a0 a1 a2 a3 a4)) (S8 R kk k J) (fun a0 a1=>J (.exit 0) (zeh a0 a1)):=by kernel_rfl
theorem ad4(a b c d:Int)(e:ar):zx2 R kk K .ret (zeg a b c d e)=
 zx4 a b c d e (fun a0 a1 a2=>K [tI a0,tI a1,tI a2] none):=by kernel_rfl
theorem ad5(a:Int)(b:ar):zx2 R kk K (.exit 0) (zeh a b)=
 Tb a b (S9 R kk kk (zx3 R kk K)):=by kernel_rfl
theorem akI(a b:Int)(c:ar):S9 R kk (k+1) J a b c=
 Pu a b c (fun a0 a1 a2 a3=>J .ret (zei a0 a1 a2 a3)) (S9 R kk k J) (fun a0=>J (.exit 2) (zej a0)):=by kernel_rfl
theorem ad6(a b c:Int)(d:ar):zx3 R kk K .ret (zei a b c d)=
 zx5 a b c d (fun a0 a1 a2=>K [tI a0,tI a1,tI a2] none):=by kernel_rfl
theorem ad7(a:ar):zx3 R kk K (.exit 2) (zej a)=
 Tc a (fun a0 a1 a2=>K [tI a0,tI a1,tI a2] none):=by kernel_rfl
theorem ahC{kk:Nat}(hF:kk=ag)(t5 t6:Int)(cX:ar):S8 R kk k J t5 t6 cX=(ED k t5 t6 cX).bind fun e=>(Sum.elim (fun(we:(Int×Int×Int×Int×ar))=>J .ret (zeg we.1 we.2.1 we.2.2.1 we.2.2.2.1 we.2.2.2.2)) (fun(we:(Int×ar))=>J (.exit 0) (zeh we.1 we.2)) e):=by
 induction k generalizing t5 t6 cX with
 |zero=>rfl
 |succ k ih=>
  rw[akH]
  simp only[ED,Pt,ih,aE]
theorem ahD{kk:Nat}(hF:kk=ag)(t5 t7:Int)(cX:ar):S9 R kk k J t5 t7 cX=(EE k t5 t7 cX).bind fun e=>(Sum.elim (fun(we:(Int×Int×Int×ar))=>J .ret (zei we.1 we.2.1 we.2.2.1 we.2.2.2)) (fun(we:ar)=>J (.exit 2) (zej we)) e):=by
 induction k generalizing t5 t7 cX with
 |zero=>rfl
 |succ k ih=>
  rw[akI]
  simp only[EE,Pu,ih,aE]
def yW:ah:=kS.add 60 [cw] (cK cw sC (fun _ r K=>K [tI r.1,tI r.2.1,tI r.2.2] none))
theorem aas:aO Tryz.prog yW:=cN EZ Tryz.f60 (fun R kk x0 K=>Ta x0 (fun a0 a1 a2=>K [tI a0,tI a1,tI a2] none) (S8 R kk kk (zx2 R kk K))) aar (ek _ _ _ _) Tryz.func60 (by kernel_rfl) rfl (fun _ _ _ _ _ _ h=>h _ _) (fun _ _ _ _=>by kernel_rfl) fun R kk e x0 K=>by
 simp only[sC,Ta,zx4,Tb,zx5,Tc,ahC (hF:=e),ahD (hF:=e),ad4,ad5,ad6,ad7,aE,<-e]
def HC:Env:=e0 [(.int .u8)]
def pX:ah:=yW.add 208 [(.int .u8)] (cK (.int .u8) HB (fun _ r K=>K [tB r] none))
theorem aat:aO Tryz.prog pX:=cN HC Tryz.f208 (fun R kk x0 K=>Xh x0 (fun a0=>K [tB a0] none)) aas (ek _ _ _ _) Tryz.func208 (by kernel_rfl) rfl (fun _ _ _ _ _ _ h=>h _ _) (fun _ _ _ _=>by kernel_rfl) fun R kk e x0 K=>by
 simp only[HB,Xh,aE]
def oZ:Env:=b9.env (fun i=>bif Nat.beq i 2 then [0,3] else []) (fun i=>bif Nat.beq i 2 then [2] else []) [] [.str]
def Xe(a:ByteArray)(b:Int):Option R:=aB (ev oZ (pX R) kk (sub [1,0,1,0,0] (cd Tryz.f162))) [0,3] [2] k ⟨[tS a]::uS 2 ([tI b]::uS 11 []),nS 16 []⟩ J
def zpc(a:Bool):State:=⟨uS 2 ([tB a]::uS 12 []),nS 16 []⟩
def zpd:State:=⟨uS 15 [],nS 16 []⟩
def Dy:KX R:=(zj 0 (aT oZ (pX R) kk (sub [1,1] (cd Tryz.f162)) (aS oZ Tryz.f162.results.toList none K)))
theorem anK(a:ByteArray)(b:Int):Xe R kk (k+1) J a b=
 Xg a b (fun a0=>J .ret (zpc a0)) (Xe R kk k J) (J (.exit 0) (zpd)):=by kernel_rfl
theorem aiD(a:Bool):Dy R kk K .ret (zpc a)=
 z159 a (fun a0=>K [tB a0] none):=by kernel_rfl
theorem aiE:Dy R kk K (.exit 0) (zpd)=
 Dz (fun a0=>K [tB a0] none):=by kernel_rfl
theorem alG{kk:Nat}(hF:kk=ag)(iM:ByteArray)(t3:Int):Xe R kk k J iM t3=(Gx k iM t3).bind fun e=>(Sum.elim (fun(we:Bool)=>J .ret (zpc we)) (fun(we:Unit)=>J (.exit 0) (zpd)) e):=by
 induction k generalizing iM t3 with
 |zero=>rfl
 |succ k ih=>
  rw[anK]
  simp only[Gx,Xg,ih,aE]
def yX:ah:=pX.add 162 [.str] (cK .str Fm (fun _ r K=>K [tB r] none))
theorem aau:aO Tryz.prog yX:=cN oZ Tryz.f162 (fun R kk x0 K=>Xf x0 (Xe R kk kk (Dy R kk K))) aat (ek _ _ _ _) Tryz.func162 (by kernel_rfl) rfl (fun _ _ _ _ _ _ h=>h _ _) (fun _ _ _ _=>by kernel_rfl) fun R kk e x0 K=>by
 simp only[Fm,Xf,z159,Dz,alG (hF:=e),aiD,aiE,aE,<-e]
def amH:Env:=e0 [.str]
def yY:ah:=yX.add 112 [.str] (cK .str sm (fun _ r K=>K [tB r] none))
theorem aav:aO Tryz.prog yY:=cN amH Tryz.f112 (fun R kk x0 K=>SB x0 (fun a0=>K [tB a0] none)) aau (ek _ _ _ _) Tryz.func112 (by kernel_rfl) rfl (fun _ _ _ _ _ _ h=>h _ _) (fun _ _ _ _=>by kernel_rfl) fun R kk e x0 K=>by
 simp only[sm,SB,aE]
def amM:Env:=e0 [.str,(.int .i64)]
def pY:ah:=yY.add 82 [.str,(.int .i64)] (dv .str (.int .i64) qz (fun _ r K=>K [tB r] none))
theorem aaw:aO Tryz.prog pY:=dz amM Tryz.f82 (fun R kk x0 x1 K=>S7 x0 x1 (fun a0=>K [tB a0] none)) aav (ek _ _ _ _) Tryz.func82 (by kernel_rfl) rfl (fun _ _ _ _ _ _ h=>h _ _) (fun _ _ _ _ _=>by kernel_rfl) fun R kk e x0 x1 K=>by
 simp only[qz,S7,aE]
def pc:Env:=b9.env (fun i=>bif Nat.beq i 5 then [0,4,5] else []) (fun i=>bif Nat.beq i 5 then [4] else []) [] [.str]
def Xi(a:ByteArray)(b c:Int):Option R:=aB (ev pc (pY R) kk (sub [1,1,1,0,1,0,0] (cd Tryz.f113))) [0,4,5] [4] k ⟨[tS a]::uS 3 ([tI b]::[tI c]::uS 28 []),nS 35 []⟩ J
def zpe(a:Int):State:=⟨uS 4 ([tI a]::uS 29 []),nS 35 []⟩
def Oh:KX R:=(zj 0 (aT pc (pY R) kk (sub [1,1,1,1] (cd Tryz.f113)) (aS pc Tryz.f113.results.toList none K)))
theorem anL(a:ByteArray)(b c:Int):Xi R kk (k+1) J a b c=
 Xk a b c (Xi R kk k J) (fun a0=>J (.exit 0) (zpe a0)):=by kernel_rfl
theorem aiF(a:Int):Oh R kk K (.exit 0) (zpe a)=
 DA a (fun a0 a1=>K [tI a0,tB a1] none):=by kernel_rfl
theorem alH{kk:Nat}(hF:kk=ag)(iM:ByteArray)(t4 t5:Int):Xi R kk k J iM t4 t5=(Gy k iM t4 t5).bind fun e=>J (.exit 0) (zpe e):=by
 induction k generalizing iM t4 t5 with
 |zero=>rfl
 |succ k ih=>
  rw[anL]
  simp only[Gy,Xk,ih,aE]
def yZ:ah:=pY.add 113 [.str] (cK .str HD (fun _ r K=>K [tI r.1,tB r.2] none))
theorem aax:aO Tryz.prog yZ:=cN pc Tryz.f113 (fun R kk x0 K=>Xj x0 (fun a0 a1=>K [tI a0,tB a1] none) (Xi R kk kk (Oh R kk K))) aaw (ek _ _ _ _) Tryz.func113 (by kernel_rfl) rfl (fun _ _ _ _ _ _ h=>h _ _) (fun _ _ _ _=>by kernel_rfl) fun R kk e x0 K=>by
 simp only[HD,Xj,DA,alH (hF:=e),aiF,aE,<-e]
def HW:Env:=e0 [.str]
def pZ:ah:=yZ.add 83 [.str] (cK .str Fp (fun _ r K=>K [tB r] none))
theorem aay:aO Tryz.prog pZ:=cN HW Tryz.f83 (fun R kk x0 K=>XH x0 (fun a0=>K [tB a0] none)) aax (ek _ _ _ _) Tryz.func83 (by kernel_rfl) rfl (fun _ _ _ _ _ _ h=>h _ _) (fun _ _ _ _=>by kernel_rfl) fun R kk e x0 K=>by
 simp only[Fp,XH,aE]
def VI:Env:=b9.env (fun i=>bif Nat.beq i 2 then [0,1,2,7] else []) (fun i=>bif Nat.beq i 2 then [6] else []) [] [(.sl 109 (.pair .str (.pair .str .unit))),(.int .i64),.str]
def SI(a:aN)(b:Int)(c:ByteArray)(d:Int):Option R:=aB (ev VI (pZ R) kk (sub [1,0,1,0,0] (cd Tryz.f114))) [0,1,2,7] [6] k ⟨[.aj (.sl 109 (.pair .str (.pair .str .unit))) a []]::[tI b]::[tS c]::uS 4 ([tI d]::uS 13 []),nS 22 []⟩ J
def ze1(a:Int):State:=⟨uS 6 ([tI a]::uS 14 []),nS 22 []⟩
def ze2:State:=⟨uS 21 [],nS 22 []⟩
def zw7:KX R:=(zj 0 (aT VI (pZ R) kk (sub [1,1] (cd Tryz.f114)) (aS VI Tryz.f114.results.toList none K)))
theorem aky(a:aN)(b:Int)(c:ByteArray)(d:Int):SI R kk (k+1) J a b c d=
 Ph a b c d (fun a0=>J .ret (ze1 a0)) (SI R kk k J) (J (.exit 0) (ze2)):=by kernel_rfl
theorem adI(a:Int):zw7 R kk K .ret (ze1 a)=
 zw8 a (fun a0=>K [tI a0] none):=by kernel_rfl
theorem adJ:zw7 R kk K (.exit 0) (ze2)=
 zw9 (fun a0=>K [tI a0] none):=by kernel_rfl
theorem ahj{kk:Nat}(hF:kk=ag)(fh:aN)(l6:Int)(oc:ByteArray)(t7:Int):SI R kk k J fh l6 oc t7=(Ey k fh l6 oc t7).bind fun e=>(Sum.elim (fun(we:Int)=>J .ret (ze1 we)) (fun(we:Unit)=>J (.exit 0) (ze2)) e):=by
 induction k generalizing fh l6 oc t7 with
 |zero=>rfl
 |succ k ih=>
  rw[aky]
  simp only[Ey,Ph,ih,aE]
def zA:ah:=pZ.add 114 [(.sl 109 (.pair .str (.pair .str .unit))),(.int .i64),.str] (kh (.sl 109 (.pair .str (.pair .str .unit))) (.int .i64) .str qy (fun _ r K=>K [tI r] none))
theorem aaz:aO Tryz.prog zA:=ku VI Tryz.f114 (fun R kk x0 x1 x2 K=>SJ x0 x1 x2 (SI R kk kk (zw7 R kk K))) aay (ek _ _ _ _) Tryz.func114 (by kernel_rfl) rfl (fun _ _ _ _ _ _ h=>h _ _) (fun _ _ _ _ _ _=>by kernel_rfl) fun R kk e x0 x1 x2 K=>by
 simp only[qy,SJ,zw8,zw9,ahj (hF:=e),adI,adJ,aE,<-e]
def amI:Env:=e0 [(.sl 109 (.pair .str (.pair .str .unit))),.str]
def p5:ah:=zA.add 84 [(.sl 109 (.pair .str (.pair .str .unit))),.str] (dv (.sl 109 (.pair .str (.pair .str .unit))) .str sn (fun _ r K=>K [tS r.1,tB r.2] none))
theorem aaA:aO Tryz.prog p5:=dz amI Tryz.f84 (fun R kk x0 x1 K=>SC x0 x1 (fun a0 a1=>K [tS a0,tB a1] none)) aaz (ek _ _ _ _) Tryz.func84 (by kernel_rfl) rfl (fun _ _ _ _ _ _ h=>h _ _) (fun _ _ _ _ _=>by kernel_rfl) fun R kk e x0 x1 K=>by
 simp only[sn,SC,aE]
def pg:Env:=b9.env (fun i=>bif Nat.beq i 4 then [0,1,5] else []) (fun i=>bif Nat.beq i 4 then [4] else []) [] [(.int .i64),(.int .i64)]
def Xo(a b c:Int):Option R:=aB (ev pg (p5 R) kk (sub [1,1,0,1,0,0] (cd Tryz.f163))) [0,1,5] [4] k ⟨[tI a]::[tI b]::uS 3 ([tI c]::uS 29 []),nS 36 []⟩ J
def zph(a:Bool):State:=⟨uS 4 ([tB a]::uS 30 []),nS 36 []⟩
def zpi:State:=⟨uS 35 [],nS 36 []⟩
def DF:KX R:=(zj 0 (aT pg (p5 R) kk (sub [1,1,1] (cd Tryz.f163)) (aS pg Tryz.f163.results.toList none K)))
theorem anN(a b c:Int):Xo R kk (k+1) J a b c=
 DG a b c (fun a0=>J .ret (zph a0)) (Xo R kk k J) (J (.exit 0) (zpi)):=by kernel_rfl
theorem aiI(a:Bool):DF R kk K .ret (zph a)=
 DH a (fun a0=>K [tB a0] none):=by kernel_rfl
theorem aiJ:DF R kk K (.exit 0) (zpi)=
 DI (fun a0=>K [tB a0] none):=by kernel_rfl
theorem alJ{kk:Nat}(hF:kk=ag)(lM tu t5:Int):Xo R kk k J lM tu t5=(Xp k lM tu t5).bind fun e=>(Sum.elim (fun(we:Bool)=>J .ret (zph we)) (fun(we:Unit)=>J (.exit 0) (zpi)) e):=by
 induction k generalizing lM tu t5 with
 |zero=>rfl
 |succ k ih=>
  rw[anN]
  simp only[Xp,DG,ih,aE]
def zB:ah:=p5.add 163 [(.int .i64),(.int .i64)] (dv (.int .i64) (.int .i64) Fo (fun _ r K=>K [tB r] none))
theorem aaB:aO Tryz.prog zB:=dz pg Tryz.f163 (fun R kk x0 x1 K=>Xq x0 x1 (fun a0=>K [tB a0] none) (Xo R kk kk (DF R kk K))) aaA (ek _ _ _ _) Tryz.func163 (by kernel_rfl) rfl (fun _ _ _ _ _ _ h=>h _ _) (fun _ _ _ _ _=>by kernel_rfl) fun R kk e x0 x1 K=>by
 simp only[Fo,Xq,DH,DI,alJ (hF:=e),aiI,aiJ,aE,<-e]
def HO:Env:=e0 [cJ,cJ]
def p6:ah:=zB.add 115 [cJ,cJ] (dv cJ cJ uZ (fun _ r K=>K [tB r] none))
theorem aaC:aO Tryz.prog p6:=dz HO Tryz.f115 (fun R kk x0 x1 K=>GC x0 x1 (fun a0=>K [tB a0] none)) aaB (ek _ _ _ _) Tryz.func115 (by kernel_rfl) rfl (fun _ _ _ _ _ _ h=>h _ _) (fun _ _ _ _ _=>by kernel_rfl) fun R kk e x0 x1 K=>by
 simp only[uZ,GC,aE]
def VG:Env:=b9.env (fun i=>bif Nat.beq i 4 then [0,4] else []) (fun i=>bif Nat.beq i 4 then [2,3] else []) [] [(.sl 109 (.pair .str (.pair .str .unit)))]
def SD(a:aN)(b:Int):Option R:=aB (ev VG (p6 R) kk (sub [1,1,0,1,0,0] (cd Tryz.f116))) [0,4] [2,3] k ⟨[.aj (.sl 109 (.pair .str (.pair .str .unit))) a []]::uS 3 ([tI b]::uS 19 []),nS 25 []⟩ J
def zdy(a b:Int):State:=⟨uS 2 ([tI a]::[tI b]::uS 20 []),nS 25 []⟩
def zdz:State:=⟨uS 24 [],nS 25 []⟩
def zw1:KX R:=(zj 0 (aT VG (p6 R) kk (sub [1,1,1] (cd Tryz.f116)) (aS VG Tryz.f116.results.toList none K)))
theorem akw(a:aN)(b:Int):SD R kk (k+1) J a b=
 Pg a b (fun a0 a1=>J .ret (zdy a0 a1)) (SD R kk k J) (J (.exit 0) (zdz)):=by kernel_rfl
theorem adF(a b:Int):zw1 R kk K .ret (zdy a b)=
 zw2 a b (fun a0 a1=>K [tI a0,tI a1] none):=by kernel_rfl
theorem adG:zw1 R kk K (.exit 0) (zdz)=
 zw3 (fun a0 a1=>K [tI a0,tI a1] none):=by kernel_rfl
theorem ahh{kk:Nat}(hF:kk=ag)(fh:aN)(t4:Int):SD R kk k J fh t4=(Ew k fh t4).bind fun e=>(Sum.elim (fun(we:(Int×Int))=>J .ret (zdy we.1 we.2)) (fun(we:Unit)=>J (.exit 0) (zdz)) e):=by
 induction k generalizing fh t4 with
 |zero=>rfl
 |succ k ih=>
  rw[akw]
  simp only[Ew,Pg,ih,aE]
def bZ:ah:=p6.add 116 [(.sl 109 (.pair .str (.pair .str .unit)))] (cK (.sl 109 (.pair .str (.pair .str .unit))) sr (fun _ r K=>K [tI r.1,tI r.2] none))
theorem aaD:aO Tryz.prog bZ:=cN VG Tryz.f116 (fun R kk x0 K=>SE x0 (fun a0 a1=>K [tI a0,tI a1] none) (SD R kk kk (zw1 R kk K))) aaC (ek _ _ _ _) Tryz.func116 (by kernel_rfl) rfl (fun _ _ _ _ _ _ h=>h _ _) (fun _ _ _ _=>by kernel_rfl) fun R kk e x0 K=>by
 simp only[sr,SE,zw2,zw3,ahh (hF:=e),adF,adG,aE,<-e]
def zu:Env:={b9.env (fun i=>bif Nat.beq i 27 then [3,4,5,7,8,13] else []) (fun i=>bif Nat.beq i 27 then [6] else []) [] [cA,aK,aK] with join:=fun i=>bif Nat.beq i 2 then some [3,4,5,23] else bif Nat.beq i 3 then some [3,4,5] else bif Nat.beq i 6 then some [3,4,5,7,8,48] else bif Nat.beq i 7 then some [3,4,5,7,8] else bif Nat.beq i 8 then some [3,4,5,7,8,65] else bif Nat.beq i 9 then some [3,4,5,7,8] else bif Nat.beq i 10 then some [3,4,5,7,8,84] else bif Nat.beq i 11 then some [3,4,5,7,8] else bif Nat.beq i 35 then some [] else bif Nat.beq i 21 then some [140] else bif Nat.beq i 25 then some [3,4,5,7,8,156] else bif Nat.beq i 26 then some [3,4,5,7,8] else bif Nat.beq i 29 then some [3,4,5,7,8,13] else bif Nat.beq i 32 then some [3,4,5,7,8,13] else bif Nat.beq i 28 then some [3,4,5,7,8,13] else none}
def M3(a:Bool)(b:aF)(c d:af):Option R:=ev zu (bZ R) kk (sub [1,0,1] (cd Tryz.f85)) ⟨uS 3 ([.ptr 4 cA []]::[.ptr 5 aK []]::[.ptr 6 aK []]::uS 17 ([tB a]::uS 170 [])),nS 4 ((some ⟨cA,b,[]⟩)::(some ⟨aK,c,[]⟩)::(some ⟨aK,d,[]⟩)::nS 188 [])⟩ (aT zu (bZ R) kk (sub [1,1] (cd Tryz.f85)) (aS zu Tryz.f85.results.toList none K))
def M4(a:aF)(b c:af):Option R:=ev zu (bZ R) kk (sub [1,1] (cd Tryz.f85)) ⟨uS 3 ([.ptr 4 cA []]::[.ptr 5 aK []]::[.ptr 6 aK []]::uS 188 []),nS 4 ((some ⟨cA,a,[]⟩)::(some ⟨aK,b,[]⟩)::(some ⟨aK,c,[]⟩)::nS 188 [])⟩ (aS zu Tryz.f85.results.toList none K)
def M5(a b:Int)(c:Bool)(d:aF)(e f:af):Option R:=ev zu (bZ R) kk (sub [1,1,1,1,0,1] (cd Tryz.f85)) ⟨uS 3 ([.ptr 4 cA []]::[.ptr 5 aK []]::[.ptr 6 aK []]::uS 1 ([tI a]::[tI b]::uS 39 ([tB c]::uS 145 []))),nS 4 ((some ⟨cA,d,[]⟩)::(some ⟨aK,e,[]⟩)::(some ⟨aK,f,[]⟩)::nS 188 [])⟩ (aT zu (bZ R) kk (sub [1,1,1,1,1] (cd Tryz.f85)) (aS zu Tryz.f85.results.toList none K))
def M6(a b:Int)(c:aF)(d e:af):Option R:=ev zu (bZ R) kk (sub [1,1,1,1,1] (cd Tryz.f85)) ⟨uS 3 ([.ptr 4 cA []]::[.ptr 5 aK []]::[.ptr 6 aK []]::uS 1 ([tI a]::[tI b]::uS 185 [])),nS 4 ((some ⟨cA,c,[]⟩)::(some ⟨aK,d,[]⟩)::(some ⟨aK,e,[]⟩)::nS 188 [])⟩ (aS zu Tryz.f85.results.toList none K)
def M7(a b:Int)(c:Bool)(d:aF)(e f:af):Option R:=ev zu (bZ R) kk (sub [1,1,1,1,1,0,1] (cd Tryz.f85)) ⟨uS 3 ([.ptr 4 cA []]::[.ptr 5 aK []]::[.ptr 6 aK []]::uS 1 ([tI a]::[tI b]::uS 56 ([tB c]::uS 128 []))),nS 4 ((some ⟨cA,d,[]⟩)::(some ⟨aK,e,[]⟩)::(some ⟨aK,f,[]⟩)::nS 188 [])⟩ (aT zu (bZ R) kk (sub [1,1,1,1,1,1] (cd Tryz.f85)) (aS zu Tryz.f85.results.toList none K))
def M8(a b:Int)(c:aF)(d e:af):Option R:=ev zu (bZ R) kk (sub [1,1,1,1,1,1] (cd Tryz.f85)) ⟨uS 3 ([.ptr 4 cA []]::[.ptr 5 aK []]::[.ptr 6 aK []]::uS 1 ([tI a]::[tI b]::uS 185 [])),nS 4 ((some ⟨cA,c,[]⟩)::(some ⟨aK,d,[]⟩)::(some ⟨aK,e,[]⟩)::nS 188 [])⟩ (aS zu Tryz.f85.results.toList none K)
def M9(a b:Int)(c:Bool)(d:aF)(e f:af):Option R:=ev zu (bZ R) kk (sub [1,1,1,1,1,1,0,1] (cd Tryz.f85)) ⟨uS 3 ([.ptr 4 cA []]::[.ptr 5 aK []]::[.ptr 6 aK []]::uS 1 ([tI a]::[tI b]::uS 75 ([tB c]::uS 109 []))),nS 4 ((some ⟨cA,d,[]⟩)::(some ⟨aK,e,[]⟩)::(some ⟨aK,f,[]⟩)::nS 188 [])⟩ (aT zu (bZ R) kk (sub [1,1,1,1,1,1,1] (cd Tryz.f85)) (aS zu Tryz.f85.results.toList none K))
def Na(a b:Int)(c:aF)(d e:af):Option R:=ev zu (bZ R) kk (sub [1,1,1,1,1,1,1] (cd Tryz.f85)) ⟨uS 3 ([.ptr 4 cA []]::[.ptr 5 aK []]::[.ptr 6 aK []]::uS 1 ([tI a]::[tI b]::uS 185 [])),nS 4 ((some ⟨cA,c,[]⟩)::(some ⟨aK,d,[]⟩)::(some ⟨aK,e,[]⟩)::nS 188 [])⟩ (aS zu Tryz.f85.results.toList none K)
def SK:Option R:=ev zu (bZ R) kk (sub [1,1,1,1,1,1,1,1] (cd Tryz.f85)) ⟨uS 194 [],nS 195 []⟩ (aS zu Tryz.f85.results.toList none K)
def Nb(a:Bool):Option R:=ev zu (bZ R) kk (sub [1,1,1,1,1,1,1,0,1,0,1,1,1,1,1,0,1,1,1] (cd Tryz.f85)) ⟨uS 140 ([tB a]::uS 53 []),nS 195 []⟩ (zj 0 (aT zu (bZ R) kk (sub [1,1,1,1,1,1,1,1] (cd Tryz.f85)) (aS zu Tryz.f85.results.toList none K)))
def z141(a b:Int)(c:Bool)(d:aF)(e f:af):Option R:=ev zu (bZ R) kk (sub [1,1,1,1,1,1,1,0,1,0,1,1,1,1,1,1,1,0,0,1,1] (cd Tryz.f85)) ⟨uS 3 ([.ptr 4 cA []]::[.ptr 5 aK []]::[.ptr 6 aK []]::uS 1 ([tI a]::[tI b]::uS 147 ([tB c]::uS 37 []))),nS 4 ((some ⟨cA,d,[]⟩)::(some ⟨aK,e,[]⟩)::(some ⟨aK,f,[]⟩)::nS 188 [])⟩ (aT zu (bZ R) kk (sub [1,1,1,1,1,1,1,0,1,0,1,1,1,1,1,1,1,0,1] (cd Tryz.f85)) (zj 0 (aT zu (bZ R) kk (sub [1,1,1,1,1,1,1,1] (cd Tryz.f85)) (aS zu Tryz.f85.results.toList none K))))
def L1(a b:Int)(c:aF)(d e:af):Option R:=ev zu (bZ R) kk (sub [1,1,1,1,1,1,1,0,1,0,1,1,1,1,1,1,1,0,1] (cd Tryz.f85)) ⟨uS 3 ([.ptr 4 cA []]::[.ptr 5 aK []]::[.ptr 6 aK []]::uS 1 ([tI a]::[tI b]::uS 185 [])),nS 4 ((some ⟨cA,c,[]⟩)::(some ⟨aK,d,[]⟩)::(some ⟨aK,e,[]⟩)::nS 188 [])⟩ (zj 0 (aT zu (bZ R) kk (sub [1,1,1,1,1,1,1,1] (cd Tryz.f85)) (aS zu Tryz.f85.results.toList none K)))
def z143(a b c:Int)(d:aF)(e f:af):Option R:=ev zu (bZ R) kk (sub [1,1,1,1,1,1,1,0,1,0,1,1,1,1,1,1,1,0,1,1,0,0,1] (cd Tryz.f85)) ⟨uS 3 ([.ptr 4 cA []]::[.ptr 5 aK []]::[.ptr 6 aK []]::uS 1 ([tI a]::[tI b]::uS 4 ([tI c]::uS 180 []))),nS 4 ((some ⟨cA,d,[]⟩)::(some ⟨aK,e,[]⟩)::(some ⟨aK,f,[]⟩)::nS 188 [])⟩ (lh (ev zu (bZ R) kk (sub [1,1,1,1,1,1,1,0,1,0,1,1,1,1,1,1,1,0,1,1,0,0] (cd Tryz.f85))) [3,4,5,7,8,13] [6] k J)
def L2(a b c:Int)(d:aF)(e f:af):Option R:=ev zu (bZ R) kk (sub [1,1,1,1,1,1,1,0,1,0,1,1,1,1,1,1,1,0,1,1,0,0,1,0,0,1] (cd Tryz.f85)) ⟨uS 3 ([.ptr 4 cA []]::[.ptr 5 aK []]::[.ptr 6 aK []]::uS 1 ([tI a]::[tI b]::uS 4 ([tI c]::uS 180 []))),nS 4 ((some ⟨cA,d,[]⟩)::(some ⟨aK,e,[]⟩)::(some ⟨aK,f,[]⟩)::nS 188 [])⟩ (zj 2 (aT zu (bZ R) kk (sub [1,1,1,1,1,1,1,0,1,0,1,1,1,1,1,1,1,0,1,1,0,0,1,1] (cd Tryz.f85)) (lh (ev zu (bZ R) kk (sub [1,1,1,1,1,1,1,0,1,0,1,1,1,1,1,1,1,0,1,1,0,0] (cd Tryz.f85))) [3,4,5,7,8,13] [6] k J)))
def z145(a b c:Int)(d:aF)(e f:af):Option R:=ev zu (bZ R) kk (sub [1,1,1,1,1,1,1,0,1,0,1,1,1,1,1,1,1,0,1,1,0,0,1,1] (cd Tryz.f85)) ⟨uS 3 ([.ptr 4 cA []]::[.ptr 5 aK []]::[.ptr 6 aK []]::uS 1 ([tI a]::[tI b]::uS 4 ([tI c]::uS 180 []))),nS 4 ((some ⟨cA,d,[]⟩)::(some ⟨aK,e,[]⟩)::(some ⟨aK,f,[]⟩)::nS 188 [])⟩ (lh (ev zu (bZ R) kk (sub [1,1,1,1,1,1,1,0,1,0,1,1,1,1,1,1,1,0,1,1,0,0] (cd Tryz.f85))) [3,4,5,7,8,13] [6] k J)
def SL(a b c:Int)(d:aF)(e f:af):Option R:=aB (ev zu (bZ R) kk (sub [1,1,1,1,1,1,1,0,1,0,1,1,1,1,1,1,1,0,1,1,0,0] (cd Tryz.f85))) [3,4,5,7,8,13] [6] k ⟨uS 3 ([.ptr 4 cA []]::[.ptr 5 aK []]::[.ptr 6 aK []]::uS 1 ([tI a]::[tI b]::uS 4 ([tI c]::uS 180 []))),nS 4 ((some ⟨cA,d,[]⟩)::(some ⟨aK,e,[]⟩)::(some ⟨aK,f,[]⟩)::nS 188 [])⟩ J
def ze3:State:=⟨uS 194 [],nS 195 []⟩
def R5(a:Int):State:=⟨uS 6 ([tI a]::uS 187 []),nS 195 []⟩
def zwa:KX R:=(zj 1 (zj 0 (aT zu (bZ R) kk (sub [1,1,1,1,1,1,1,1] (cd Tryz.f85)) (aS zu Tryz.f85.results.toList none K))))
theorem ahk(a:Bool)(b:aF)(c d:af):M3 R kk K a b c d=
 zwf a b c d (fun a0=>K [tI a0] none) (fun a0 a1 a2=>cH kk fun _=>M4 R kk K a0 a1 a2):=by kernel_rfl
theorem ahl(a:aF)(b c:af):M4 R kk K a b c=
 F8 a b c (fun a0 a1 a2 a3 a4 a5=>cH kk fun _=>M5 R kk K a0 a1 a2 a3 a4 a5):=by kernel_rfl
theorem ahm(a b:Int)(c:Bool)(d:aF)(e f:af):M5 R kk K a b c d e f=
 zwg a b c d e f (fun a0=>K [tI a0] none) (fun a0 a1 a2 a3 a4=>cH kk fun _=>M6 R kk K a0 a1 a2 a3 a4):=by kernel_rfl
theorem ahn(a b:Int)(c:aF)(d e:af):M6 R kk K a b c d e=
 F9 a b c d e (fun a0 a1 a2 a3 a4 a5=>cH kk fun _=>M7 R kk K a0 a1 a2 a3 a4 a5):=by kernel_rfl
theorem aho(a b:Int)(c:Bool)(d:aF)(e f:af):M7 R kk K a b c d e f=
 zwh a b c d e f (fun a0=>K [tI a0] none) (fun a0 a1 a2 a3 a4=>cH kk fun _=>M8 R kk K a0 a1 a2 a3 a4):=by kernel_rfl
theorem ahp(a b:Int)(c:aF)(d e:af):M8 R kk K a b c d e=
 z85 a b c d e (fun a0 a1 a2 a3 a4 a5=>cH kk fun _=>M9 R kk K a0 a1 a2 a3 a4 a5):=by kernel_rfl
theorem ahq(a b:Int)(c:Bool)(d:aF)(e f:af):M9 R kk K a b c d e f=
 zwi a b c d e f (fun a0=>K [tI a0] none) (fun a0 a1 a2 a3 a4=>cH kk fun _=>Na R kk K a0 a1 a2 a3 a4):=by kernel_rfl
theorem ahr(a b:Int)(c:aF)(d e:af):Na R kk K a b c d e=
 Ga a b c d e (fun a0=>K [tI a0] none) (cH kk fun _=>SK R kk K) (fun a0=>cH kk fun _=>Nb R kk K a0) (fun a0 a1 a2 a3 a4 a5=>cH kk fun _=>z141 R kk K a0 a1 a2 a3 a4 a5):=by kernel_rfl
theorem ahs:SK R kk K=
 zwj (fun a0=>K [tI a0] none):=by kernel_rfl
theorem aht(a:Bool):Nb R kk K a=
 zop a (fun a0=>K [tI a0] none) (cH kk fun _=>SK R kk K):=by kernel_rfl
theorem adK(a b:Int)(c:Bool)(d:aF)(e f:af):z141 R kk K a b c d e f=
 zoq a b c d e f (fun a0=>K [tI a0] none) (fun a0 a1 a2 a3 a4=>cH kk fun _=>L1 R kk K a0 a1 a2 a3 a4):=by kernel_rfl
theorem adL(a b:Int)(c:aF)(d e:af):L1 R kk K a b c d e=
 Sn a b c d e (SL R kk kk (zwa R kk K)):=by kernel_rfl
theorem akz(a b c:Int)(d:aF)(e f:af):SL R kk (k+1) J a b c d e f=
 O7 a b c d e f (fun a0 a1 a2 a3 a4 a5=>cH kk fun _=>z143 R kk k J a0 a1 a2 a3 a4 a5) (J (.exit 1) (ze3)):=by kernel_rfl
theorem adM(a b c:Int)(d:aF)(e f:af):z143 R kk k J a b c d e f=
 So a b c d e f (fun a0=>J .ret (R5 a0)) (fun a0 a1 a2 a3 a4 a5=>cH kk fun _=>L2 R kk k J a0 a1 a2 a3 a4 a5):=by kernel_rfl
theorem adP:zwa R kk K (.exit 1) (ze3)=
 zor (cH kk fun _=>SK R kk K):=by kernel_rfl
theorem adQ(a:Int):zwa R kk K .ret (R5 a)=
 zos a (fun a0=>K [tI a0] none):=by kernel_rfl
theorem adN(a b c:Int)(d:aF)(e f:af):L2 R kk k J a b c d e f=
 Sp a b c d e f (fun a0=>J .ret (R5 a0)) (fun a0 a1 a2 a3 a4 a5=>cH kk fun _=>z145 R kk k J a0 a1 a2 a3 a4 a5):=by kernel_rfl
theorem adO(a b c:Int)(d:aF)(e f:af):z145 R kk k J a b c d e f=
 Sq a b c d e f (SL R kk k J):=by kernel_rfl
theorem ahu{kk:Nat}(hF:kk=ag)(t7 t8 t13:Int)(dc:aF)(cP dV:af):SL R kk k J t7 t8 t13 dc cP dV=(vu k t7 t8 t13 dc cP dV).bind fun e=>(Sum.elim (fun(we:Unit)=>J (.exit 1) (ze3)) (fun(we:Int)=>J .ret (R5 we)) e):=by
 induction k generalizing t7 t8 t13 dc cP dV with
 |zero=>rfl
 |succ k ih=>
  rw[akz]
  simp only[vu,O7,So,Sp,Sq,ih,adM,adN,adO,Oy (hF:=hF),aE]
def zE:ah:=bZ.add 85 [cA,aK,aK] (kh cA aK aK su (fun _ r K=>K [tI r] none))
theorem aaE:aO Tryz.prog zE:=ku zu Tryz.f85 (fun R kk x0 x1 x2 K=>F7 x0 x1 x2 (fun a0 a1 a2 a3=>cH kk fun _=>M3 R kk K a0 a1 a2 a3)) aaD ((ek _ _ _ _).join _) Tryz.func85 (by kernel_rfl) rfl (fun _ _ _ _ _ _ h=>h _ _) (fun _ _ _ _ _ _=>by kernel_rfl) fun R kk e x0 x1 x2 K=>by
 simp only[su,abn,zwf,abo,zwg,abp,zwh,abq,zwi,abr,zwj,zop,zoq,Sn,zor,zos,ahu (hF:=e),zwb,SM,A0,Pj,zwc,Ez,zwd,Pk,SN,zwe,zoo,O6,ahk,ahl,adK,adL,ahm,ahn,aho,ahp,ahq,ahr,ahs,aht,adP,adQ,Oy (hF:=e),aE,<-e]
def amL:Env:=e0 [cA,cA]
def hJ:ah:=zE.add 86 [cA,cA] (dv cA cA sB (fun _ r K=>K [tB r] none))
theorem aaF:aO Tryz.prog hJ:=dz amL Tryz.f86 (fun R kk x0 x1 K=>S6 x0 x1 (fun a0=>K [tB a0] none)) aaE (ek _ _ _ _) Tryz.func86 (by kernel_rfl) rfl (fun _ _ _ _ _ _ h=>h _ _) (fun _ _ _ _ _=>by kernel_rfl) fun R kk e x0 x1 K=>by
 simp only[sB,S6,aE]
def vw:Env:=b9.env (fun i=>bif Nat.beq i 8 then [3,4,5,9] else bif Nat.beq i 19 then [3,4,5,13] else bif Nat.beq i 25 then [3,4,5,13,15] else []) (fun i=>bif Nat.beq i 8 then [3,4,5,6,7,8] else bif Nat.beq i 19 then [6,7,8] else bif Nat.beq i 25 then [3,4,5,6,7,8,13] else []) [] [cD,aK,aK]
def SR(a:Int)(b:ay)(c d:af):Option R:=aB (ev vw (hJ R) kk (sub [1,1,1,1,0,1,0,0] (cd Tryz.f61))) [3,4,5,9] [3,4,5,6,7,8] k ⟨uS 3 ([.ptr 4 cD []]::[.ptr 5 aK []]::[.ptr 6 aK []]::uS 3 ([tI a]::uS 104 [])),nS 4 ((some ⟨cD,b,[]⟩)::(some ⟨aK,c,[]⟩)::(some ⟨aK,d,[]⟩)::nS 108 [])⟩ J
def ze6(a b c:Int)(d:ay)(e f:af):State:=⟨uS 3 ([.ptr 4 cD []]::[.ptr 5 aK []]::[.ptr 6 aK []]::[tI a]::[tI b]::[tI c]::uS 105 []),nS 4 ((some ⟨cD,d,[]⟩)::(some ⟨aK,e,[]⟩)::(some ⟨aK,f,[]⟩)::nS 108 [])⟩
def ze7(a:ay)(b c:af):State:=⟨uS 3 ([.ptr 4 cD []]::[.ptr 5 aK []]::[.ptr 6 aK []]::uS 108 []),nS 4 ((some ⟨cD,a,[]⟩)::(some ⟨aK,b,[]⟩)::(some ⟨aK,c,[]⟩)::nS 108 [])⟩
def zwn:KX R:=(zj 0 (aT vw (hJ R) kk (sub [1,1,1,1,1] (cd Tryz.f61)) (aS vw Tryz.f61.results.toList none K)))
def SS(a:Int)(b:ay)(c d:af):Option R:=aB (ev vw (hJ R) kk (sub [1,1,1,1,1,1,0,1,0,0] (cd Tryz.f61))) [3,4,5,13] [6,7,8] k ⟨uS 3 ([.ptr 4 cD []]::[.ptr 5 aK []]::[.ptr 6 aK []]::uS 7 ([tI a]::uS 100 [])),nS 4 ((some ⟨cD,b,[]⟩)::(some ⟨aK,c,[]⟩)::(some ⟨aK,d,[]⟩)::nS 108 [])⟩ J
def R6(a b c:Int):State:=⟨uS 6 ([tI a]::[tI b]::[tI c]::uS 105 []),nS 115 []⟩
def ze8:State:=⟨uS 114 [],nS 115 []⟩
def zwo:KX R:=(zj 2 (aT vw (hJ R) kk (sub [1,1,1,1,1,1,1] (cd Tryz.f61)) (aS vw Tryz.f61.results.toList none K)))
def SU(a b:Int)(c:ay)(d e:af):Option R:=aB (ev vw (hJ R) kk (sub [1,1,1,1,1,1,0,1,0,0,1,0,0,1,1,0,0] (cd Tryz.f61))) [3,4,5,13,15] [3,4,5,6,7,8,13] k ⟨uS 3 ([.ptr 4 cD []]::[.ptr 5 aK []]::[.ptr 6 aK []]::uS 7 ([tI a]::uS 1 ([tI b]::uS 98 []))),nS 4 ((some ⟨cD,c,[]⟩)::(some ⟨aK,d,[]⟩)::(some ⟨aK,e,[]⟩)::nS 108 [])⟩ J
def ze9(a b c d:Int)(e:ay)(f g:af):State:=⟨uS 3 ([.ptr 4 cD []]::[.ptr 5 aK []]::[.ptr 6 aK []]::[tI a]::[tI b]::[tI c]::uS 4 ([tI d]::uS 100 [])),nS 4 ((some ⟨cD,e,[]⟩)::(some ⟨aK,f,[]⟩)::(some ⟨aK,g,[]⟩)::nS 108 [])⟩
def zea(a:Int)(b:ay)(c d:af):State:=⟨uS 3 ([.ptr 4 cD []]::[.ptr 5 aK []]::[.ptr 6 aK []]::uS 7 ([tI a]::uS 100 [])),nS 4 ((some ⟨cD,b,[]⟩)::(some ⟨aK,c,[]⟩)::(some ⟨aK,d,[]⟩)::nS 108 [])⟩
def zwp:KX R:=(zj 4 (zj 3 (aT vw (hJ R) kk (sub [1,1,1,1,1,1,0,1,0,0,1,1] (cd Tryz.f61)) (lh (ev vw (hJ R) kk (sub [1,1,1,1,1,1,0,1,0,0] (cd Tryz.f61))) [3,4,5,13] [6,7,8] k J))))
theorem akB(a:Int)(b:ay)(c d:af):SR R kk (k+1) J a b c d=
 Pn a b c d (fun a0 a1 a2 a3 a4 a5=>J .ret (ze6 a0 a1 a2 a3 a4 a5)) (SR R kk k J) (fun a0 a1 a2=>J (.exit 0) (ze7 a0 a1 a2)):=by kernel_rfl
theorem adT(a b c:Int)(d:ay)(e f:af):zwn R kk K .ret (ze6 a b c d e f)=
 zwq a b c d e f (fun a0 a1 a2=>K [tI a0,tI a1,tI a2] none):=by kernel_rfl
theorem adU(a:ay)(b c:af):zwn R kk K (.exit 0) (ze7 a b c)=
 SX a b c (fun a0 a1 a2=>K [tI a0,tI a1,tI a2] none) (SS R kk kk (zwo R kk K)):=by kernel_rfl
theorem akC(a:Int)(b:ay)(c d:af):SS R kk (k+1) J a b c d=
 Po a b c d (fun a0 a1 a2=>J .ret (R6 a0 a1 a2)) (SU R kk kk (zwp R kk k J)) (J (.exit 2) (ze8)):=by kernel_rfl
theorem adV(a b c:Int):zwo R kk K .ret (R6 a b c)=
 zwr a b c (fun a0 a1 a2=>K [tI a0,tI a1,tI a2] none):=by kernel_rfl
theorem adW:zwo R kk K (.exit 2) (ze8)=
 zws (fun a0 a1 a2=>K [tI a0,tI a1,tI a2] none):=by kernel_rfl
theorem akD(a b:Int)(c:ay)(d e:af):SU R kk (k+1) J a b c d e=
 Pp a b c d e (fun a0 a1 a2 a3 a4 a5 a6=>J .ret (ze9 a0 a1 a2 a3 a4 a5 a6)) (SU R kk k J) (fun a0 a1 a2 a3=>J (.exit 4) (zea a0 a1 a2 a3)):=by kernel_rfl
theorem adX(a b c d:Int)(e:ay)(f g:af):zwp R kk k J .ret (ze9 a b c d e f g)=
 zwt a b c d e f g (fun a0 a1 a2=>J .ret (R6 a0 a1 a2)):=by kernel_rfl
theorem adY(a:Int)(b:ay)(c d:af):zwp R kk k J (.exit 4) (zea a b c d)=
 SY a b c d (SS R kk k J):=by kernel_rfl
theorem ahw{kk:Nat}(hF:kk=ag)(t9:Int)(dc:ay)(cP dV:af):SR R kk k J t9 dc cP dV=(EA k t9 dc cP dV).bind fun e=>(Sum.elim (fun(we:lL)=>J .ret (ze6 we.1 we.2.1 we.2.2.1 we.2.2.2.1 we.2.2.2.2.1 we.2.2.2.2.2)) (fun(we:lK)=>J (.exit 0) (ze7 we.1 we.2.1 we.2.2)) e):=by
 induction k generalizing t9 dc cP dV with
 |zero=>rfl
 |succ k ih=>
  rw[akB]
  simp only[EA,Pn,ih,aE]
theorem ahy{kk:Nat}(hF:kk=ag)(t13 t15:Int)(dc:ay)(cP dV:af):SU R kk k J t13 t15 dc cP dV=(EC k t13 t15 dc cP dV).bind fun e=>(Sum.elim (fun(we:(Int×Int×Int×Int×ay×af×af))=>J .ret (ze9 we.1 we.2.1 we.2.2.1 we.2.2.2.1 we.2.2.2.2.1 we.2.2.2.2.2.1 we.2.2.2.2.2.2)) (fun(we:(Int×ay×af×af))=>J (.exit 4) (zea we.1 we.2.1 we.2.2.1 we.2.2.2)) e):=by
 induction k generalizing t13 t15 dc cP dV with
 |zero=>rfl
 |succ k ih=>
  rw[akD]
  simp only[EC,Pp,ih,aE]
theorem ahx{kk:Nat}(hF:kk=ag)(t13:Int)(dc:ay)(cP dV:af):SS R kk k J t13 dc cP dV=(EB k t13 dc cP dV).bind fun e=>(Sum.elim (fun(we:jl)=>J .ret (R6 we.1 we.2.1 we.2.2)) (fun(we:Unit)=>J (.exit 2) (ze8)) e):=by
 induction k generalizing t13 dc cP dV with
 |zero=>rfl
 |succ k ih=>
  rw[akC]
  simp only[EB,Po,zwt,SY,ih,ahy (hF:=hF),adX,adY,aE,<-hF]
def p7:ah:=hJ.add 61 [cD,aK,aK] (kh cD aK aK sw (fun _ r K=>K [tI r.1,tI r.2.1,tI r.2.2] none))
theorem aaG:aO Tryz.prog p7:=ku vw Tryz.f61 (fun R kk x0 x1 x2 K=>SW x0 x1 x2 (fun a0 a1 a2=>K [tI a0,tI a1,tI a2] none) (SR R kk kk (zwn R kk K))) aaF (ek _ _ _ _) Tryz.func61 (by kernel_rfl) rfl (fun _ _ _ _ _ _ h=>h _ _) (fun _ _ _ _ _ _=>by kernel_rfl) fun R kk e x0 x1 x2 K=>by
 simp only[sw,SW,zwq,SX,zwr,zws,ahw (hF:=e),ahx (hF:=e),adT,adU,adV,adW,aE,<-e]
def VP:Env:=b9.env (fun i=>bif Nat.beq i 4 then [1,5] else []) (fun i=>bif Nat.beq i 4 then [2,3,4] else []) [] [bM]
def Tj(a:Int)(b:av):Option R:=aB (ev VP (p7 R) kk (sub [1,1,0,1,0,0] (cd Tryz.f41))) [1,5] [2,3,4] k ⟨uS 1 ([.ptr 2 bM []]::uS 3 ([tI a]::uS 56 [])),nS 2 ((some ⟨bM,b,[]⟩)::nS 60 [])⟩ J
def zeo(a b c:Int):State:=⟨uS 2 ([tI a]::[tI b]::[tI c]::uS 57 []),nS 63 []⟩
def zep:State:=⟨uS 62 [],nS 63 []⟩
def zxe:KX R:=(zj 0 (aT VP (p7 R) kk (sub [1,1,1] (cd Tryz.f41)) (aS VP Tryz.f41.results.toList none K)))
theorem akL(a:Int)(b:av):Tj R kk (k+1) J a b=
 z87 a b (fun a0 a1 a2=>J .ret (zeo a0 a1 a2)) (Tj R kk k J) (J (.exit 0) (zep)):=by kernel_rfl
theorem aec(a b c:Int):zxe R kk K .ret (zeo a b c)=
 zxf a b c (fun a0 a1 a2=>K [tI a0,tI a1,tI a2] none):=by kernel_rfl
theorem aed:zxe R kk K (.exit 0) (zep)=
 zxg (fun a0 a1 a2=>K [tI a0,tI a1,tI a2] none):=by kernel_rfl
theorem ahG{kk:Nat}(hF:kk=ag)(t5:Int)(cX:av):Tj R kk k J t5 cX=(EG k t5 cX).bind fun e=>(Sum.elim (fun(we:jl)=>J .ret (zeo we.1 we.2.1 we.2.2)) (fun(we:Unit)=>J (.exit 0) (zep)) e):=by
 induction k generalizing t5 cX with
 |zero=>rfl
 |succ k ih=>
  rw[akL]
  simp only[EG,z87,ih,aE]
def zG:ah:=p7.add 41 [bM] (cK bM sE (fun _ r K=>K [tI r.1,tI r.2.1,tI r.2.2] none))
theorem aaH:aO Tryz.prog zG:=cN VP Tryz.f41 (fun R kk x0 K=>Tk x0 (fun a0 a1 a2=>K [tI a0,tI a1,tI a2] none) (Tj R kk kk (zxe R kk K))) aaG (ek _ _ _ _) Tryz.func41 (by kernel_rfl) rfl (fun _ _ _ _ _ _ h=>h _ _) (fun _ _ _ _=>by kernel_rfl) fun R kk e x0 K=>by
 simp only[sE,Tk,zxf,zxg,ahG (hF:=e),aec,aed,aE,<-e]
def amQ:Env:=e0 [bM]
def zH:ah:=zG.add 14 [bM] (cK bM sG (fun _ r K=>K [tB r] none))
theorem aaI:aO Tryz.prog zH:=cN amQ Tryz.f14 (fun R kk x0 K=>Tp x0 (fun a0=>K [tB a0] none)) aaH (ek _ _ _ _) Tryz.func14 (by kernel_rfl) rfl (fun _ _ _ _ _ _ h=>h _ _) (fun _ _ _ _=>by kernel_rfl) fun R kk e x0 K=>by
 simp only[sG,Tp,aE]
def amJ:Env:=e0 [(.sl 109 (.pair .str (.pair .str .unit)))]
def zJ:ah:=zH.add 57 [(.sl 109 (.pair .str (.pair .str .unit)))] (cK (.sl 109 (.pair .str (.pair .str .unit))) qx (fun _ r K=>K [.aj (.sl 109 (.pair .str (.pair .str .unit))) r [[]]] none))
theorem aaJ:aO Tryz.prog zJ:=cN amJ Tryz.f57 (fun R kk x0 K=>SF x0 (fun a0=>K [.aj (.sl 109 (.pair .str (.pair .str .unit))) a0 [[]]] none)) aaI (ek _ _ _ _) Tryz.func57 (by kernel_rfl) rfl (fun _ _ _ _ _ _ h=>h _ _) (fun _ _ _ _=>by kernel_rfl) fun R kk e x0 K=>by
 simp only[qx,SF,aE]
def amK:Env:=b9.env (fun _=>[]) (fun _=>[]) [2] [cA]
def p8:ah:=zJ.add 58 [cA] (cK cA nO (fun _ r K=>K [.aj cA r [[4]]] none))
theorem aaK:aO Tryz.prog p8:=cN amK Tryz.f58 (fun R kk x0 K=>SO x0 (fun a0=>K [.aj cA a0 [[4]]] none)) aaJ (ek _ _ _ _) Tryz.func58 (by kernel_rfl) rfl (fun _ _ _ _ _ _ h=>h _ _) (fun _ _ _ _=>by kernel_rfl) fun R kk e x0 K=>by
 simp only[nO,SO,aE]
def VL:Env:=b9.env (fun i=>bif Nat.beq i 3 then [1,2,3,4] else []) (fun i=>bif Nat.beq i 3 then [2,3] else []) [2] [cD]
def SZ(a:Int)(b c d:ay):Option R:=aB (ev VL (p8 R) kk (sub [1,1,0,1,0,0] (cd Tryz.f39))) [1,2,3,4] [2,3] k ⟨uS 1 ([.ptr 2 cD []]::[.ptr 3 cD []]::[.ptr 4 cD []]::[tI a]::uS 23 []),nS 2 ((some ⟨cD,b,[]⟩)::(some ⟨cD,c,[[0],[1]]⟩)::(some ⟨cD,d,[[0],[1]]⟩)::nS 24 [])⟩ J
def zeb(a b:ay):State:=⟨uS 2 ([.ptr 3 cD []]::[.ptr 4 cD []]::uS 24 []),nS 3 ((some ⟨cD,a,[[0],[1]]⟩)::(some ⟨cD,b,[[0],[1]]⟩)::nS 24 [])⟩
def Nc:KX R:=(zj 0 (aT VL (p8 R) kk (sub [1,1,1] (cd Tryz.f39)) (aS VL Tryz.f39.results.toList none K)))
theorem akE(a:Int)(b c d:ay):SZ R kk (k+1) J a b c d=
 zwu a b c d (SZ R kk k J) (fun a0 a1=>J (.exit 0) (zeb a0 a1)):=by kernel_rfl
theorem adZ(a b:ay):Nc R kk K (.exit 0) (zeb a b)=
 zwv a b (fun a0=>K [.aj cD a0 [[0],[1]]] none):=by kernel_rfl
theorem ahz{kk:Nat}(hF:kk=ag)(t4:Int)(cX dB dc:ay):SZ R kk k J t4 cX dB dc=(Pq k t4 cX dB dc).bind fun e=>J (.exit 0) (zeb e.1 e.2):=by
 induction k generalizing t4 cX dB dc with
 |zero=>rfl
 |succ k ih=>
  rw[akE]
  simp only[Pq,zwu,ih,aE]
def zK:ah:=p8.add 39 [cD] (cK cD sA (fun _ r K=>K [.aj cD r [[0],[1]]] none))
theorem aaL:aO Tryz.prog zK:=cN VL Tryz.f39 (fun R kk x0 K=>S0 x0 (SZ R kk kk (Nc R kk K))) aaK (ek _ _ _ _) Tryz.func39 (by kernel_rfl) rfl (fun _ _ _ _ _ _ h=>h _ _) (fun _ _ _ _=>by kernel_rfl) fun R kk e x0 K=>by
 simp only[sA,S0,zwv,ahz (hF:=e),adZ,aE,<-e]
def HS:Env:=b9.env (fun _=>[]) (fun _=>[]) [2] [aK]
def zL:ah:=zK.add 59 [aK] (cK aK HR (fun _ r K=>K [.aj aK r [[2]]] none))
theorem aaM:aO Tryz.prog zL:=cN HS Tryz.f59 (fun R kk x0 K=>XB x0 (fun a0=>K [.aj aK a0 [[2]]] none)) aaL (ek _ _ _ _) Tryz.func59 (by kernel_rfl) rfl (fun _ _ _ _ _ _ h=>h _ _) (fun _ _ _ _=>by kernel_rfl) fun R kk e x0 K=>by
 simp only[HR,XB,aE]
def amN:Env:=b9.env (fun _=>[]) (fun _=>[]) [2] [cw]
def p9:ah:=zL.add 40 [cw] (cK cw sD (fun _ r K=>K [.aj cw r [[3],[2],[0,2]]] none))
theorem aaN:aO Tryz.prog p9:=cN amN Tryz.f40 (fun R kk x0 K=>Td x0 (fun a0=>K [.aj cw a0 [[3],[2],[0,2]]] none)) aaM (ek _ _ _ _) Tryz.func40 (by kernel_rfl) rfl (fun _ _ _ _ _ _ h=>h _ _) (fun _ _ _ _=>by kernel_rfl) fun R kk e x0 K=>by
 simp only[sD,Td,aE]
def VQ:Env:={b9.env (fun i=>bif Nat.beq i 2 then [1,2,3] else []) (fun i=>bif Nat.beq i 2 then [1,2] else []) [2] [bM] with sh:=[20]}
def Tl(a:Int)(b c:av):Option R:=aB (ev VQ (p9 R) kk (sub [1,0,1,0,0] (cd Tryz.f13))) [1,2,3] [1,2] k ⟨uS 1 ([.ptr 2 bM []]::[.ptr 3 bM []]::[tI a]::uS 25 []),nS 2 ((some ⟨bM,b,[]⟩)::(some ⟨bM,c,[]⟩)::nS 26 [])⟩ J
def zeq(a b:av):State:=⟨uS 1 ([.ptr 2 bM []]::[.ptr 3 bM []]::uS 26 []),nS 2 ((some ⟨bM,a,[]⟩)::(some ⟨bM,b,[]⟩)::nS 26 [])⟩
def Nd:KX R:=(zj 0 (aT VQ (p9 R) kk (sub [1,1] (cd Tryz.f13)) (aS VQ Tryz.f13.results.toList none K)))
theorem akM(a:Int)(b c:av):Tl R kk (k+1) J a b c=
 Gb a b c (Tl R kk k J) (fun a0 a1=>J (.exit 0) (zeq a0 a1)):=by kernel_rfl
theorem aee(a b:av):Nd R kk K (.exit 0) (zeq a b)=
 zxh a b (fun a0=>K [.aj bM a0 []] none):=by kernel_rfl
theorem ahH{kk:Nat}(hF:kk=ag)(t3:Int)(cX dB:av):Tl R kk k J t3 cX dB=(EH k t3 cX dB).bind fun e=>J (.exit 0) (zeq e.1 e.2):=by
 induction k generalizing t3 cX dB with
 |zero=>rfl
 |succ k ih=>
  rw[akM]
  simp only[EH,Gb,ih,aE]
def zM:ah:=p9.add 13 [bM] (cK bM sF (fun _ r K=>K [.aj bM r []] none))
theorem aaO:aO Tryz.prog zM:=cN VQ Tryz.f13 (fun R kk x0 K=>Tm x0 (Tl R kk kk (Nd R kk K))) aaN ((ek _ _ _ _).sh _) Tryz.func13 (by kernel_rfl) rfl (fun _ _ _ _ _ _ h=>h _ _) (fun _ _ _ _=>by kernel_rfl) fun R kk e x0 K=>by
 simp only[sF,Tm,zxh,ahH (hF:=e),aee,aE,<-e]
def HA:Env:=e0 [bM,(.sl 57 (.pair (.int .i64) (.pair .str .unit))),(.int .i64)]
def qa:ah:=zM.add 18 [bM,(.sl 57 (.pair (.int .i64) (.pair .str .unit))),(.int .i64)] (kh bM (.sl 57 (.pair (.int .i64) (.pair .str .unit))) (.int .i64) tg (fun _ r K=>(Sum.elim (fun(wr:Unit)=>K [.dN,tB false] none) (fun(wr:(Bool×(av×(Option al×Option al)×Int)))=>K [.ptr 0 (.aJ .bN bM y6) [],tB wr.1] (some ⟨(.aJ .bN bM y6),wr.2,[[],[0],[0,2],[1],[1,2]]⟩)) r)))
theorem aaP:aO Tryz.prog qa:=ku HA Tryz.f18 (fun R kk x0 x1 x2 K=>Xd x0 x1 x2 (K [.dN,tB false] none) (fun a0 a1=>K [.ptr 0 (.aJ .bN bM y6) [],tB a0] (some ⟨(.aJ .bN bM y6),a1,[[],[0],[0,2],[1],[1,2]]⟩))) aaO (ek _ _ _ _) Tryz.func18 (by kernel_rfl) rfl (fun _ _ _ _ _ _ h=>Qc (fun _=>h _ _) (fun _=>h _ _)) (fun _ _ _ _ _ _=>by kernel_rfl) fun R kk e x0 x1 x2 K=>by
 simp only[tg,Xd,aE]
def VV:Env:=b9.env (fun i=>bif Nat.beq i 3 then [0,3,4] else []) (fun i=>bif Nat.beq i 3 then [3] else []) [] [(.sl 9 .str)]
def Tx(a:(List ByteArray))(b:ByteArray)(c:Int):Option R:=aB (ev VV (qa R) kk (sub [1,1,0,1,0,0] (cd Tryz.f27))) [0,3,4] [3] k ⟨[.aj (.sl 9 .str) a []]::uS 2 ([tS b]::[tI c]::uS 13 []),nS 19 []⟩ J
def zev(a:ByteArray):State:=⟨uS 3 ([tS a]::uS 14 []),nS 19 []⟩
def Nh:KX R:=(zj 0 (aT VV (qa R) kk (sub [1,1,1] (cd Tryz.f27)) (aS VV Tryz.f27.results.toList none K)))
theorem akQ(a:(List ByteArray))(b:ByteArray)(c:Int):Tx R kk (k+1) J a b c=
 Py a b c (Tx R kk k J) (fun a0=>J (.exit 0) (zev a0)):=by kernel_rfl
theorem aej(a:ByteArray):Nh R kk K (.exit 0) (zev a)=
 TA a (fun a0=>K [tS a0] none):=by kernel_rfl
theorem ahL{kk:Nat}(hF:kk=ag)(fh:(List ByteArray))(t3:ByteArray)(t4:Int):Tx R kk k J fh t3 t4=(EJ k fh t3 t4).bind fun e=>J (.exit 0) (zev e):=by
 induction k generalizing fh t3 t4 with
 |zero=>rfl
 |succ k ih=>
  rw[akQ]
  simp only[EJ,Py,ih,aE]
def jO:ah:=qa.add 27 [(.sl 9 .str)] (cK (.sl 9 .str) sI (fun _ r K=>K [tS r] none))
theorem aaQ:aO Tryz.prog jO:=cN VV Tryz.f27 (fun R kk x0 K=>Tz x0 (Tx R kk kk (Nh R kk K))) aaP (ek _ _ _ _) Tryz.func27 (by kernel_rfl) rfl (fun _ _ _ _ _ _ h=>h _ _) (fun _ _ _ _=>by kernel_rfl) fun R kk e x0 K=>by
 simp only[sI,Tz,TA,ahL (hF:=e),aej,aE,<-e]
def jL:Env:=b9.env (fun i=>bif Nat.beq i 5 then [1,2,3,7,8,22,23,24] else bif Nat.beq i 9 then [1,2,3,7,8,10,22,23,24,35,36] else []) (fun i=>bif Nat.beq i 5 then [1,2,3,7,8] else bif Nat.beq i 9 then [1,2,3,7,8,22,23,24] else []) [] [bM,(.int .i64),(.sl 9 .str)]
def W8(a:Int)(b:(List ByteArray))(c d:ak)(e:(List ByteArray))(f g:Int)(h:av):Option R:=aB (ev jL (jO R) kk (sub [1,1,1,0,1,0,0] (cd Tryz.f6))) [1,2,3,7,8,22,23,24] [1,2,3,7,8] k ⟨uS 1 ([tI a]::[.aj (.sl 9 .str) b []]::[.ptr 4 bM []]::uS 3 ([.aj (.sl 57 (.pair (.int .i64) (.pair .str .unit))) c [[]]]::[.aj (.sl 57 (.pair (.int .i64) (.pair .str .unit))) d [[]]]::uS 13 ([.aj (.sl 9 .str) e []]::[tI f]::[tI g]::uS 78 []))),nS 4 ((some ⟨bM,h,[]⟩)::nS 99 [])⟩ J
def zpa(a:Int)(b:(List ByteArray))(c d:ak)(e:av):State:=⟨uS 1 ([tI a]::[.aj (.sl 9 .str) b []]::[.ptr 4 bM []]::uS 3 ([.aj (.sl 57 (.pair (.int .i64) (.pair .str .unit))) c [[]]]::[.aj (.sl 57 (.pair (.int .i64) (.pair .str .unit))) d [[]]]::uS 94 [])),nS 4 ((some ⟨bM,e,[]⟩)::nS 99 [])⟩
def Oe:KX R:=(zj 0 (aT jL (jO R) kk (sub [1,1,1,1] (cd Tryz.f6)) (aS jL Tryz.f6.results.toList none K)))
def W9(a:Int)(b:(List ByteArray))(c d:ak)(e:ByteArray)(f:(List ByteArray))(g h i j:Int)(l:av):Option R:=aB (ev jL (jO R) kk (sub [1,1,1,0,1,0,0,1,1,0,0,1,1,1,0,0] (cd Tryz.f6))) [1,2,3,7,8,10,22,23,24,35,36] [1,2,3,7,8,22,23,24] k ⟨uS 1 ([tI a]::[.aj (.sl 9 .str) b []]::[.ptr 4 bM []]::uS 3 ([.aj (.sl 57 (.pair (.int .i64) (.pair .str .unit))) c [[]]]::[.aj (.sl 57 (.pair (.int .i64) (.pair .str .unit))) d [[]]]::uS 1 ([tS e]::uS 11 ([.aj (.sl 9 .str) f []]::[tI g]::[tI h]::uS 10 ([tI i]::[tI j]::uS 66 []))))),nS 4 ((some ⟨bM,l,[]⟩)::nS 99 [])⟩ J
def zpb(a:Int)(b:(List ByteArray))(c d:ak)(e:(List ByteArray))(f g:Int)(h:av):State:=⟨uS 1 ([tI a]::[.aj (.sl 9 .str) b []]::[.ptr 4 bM []]::uS 3 ([.aj (.sl 57 (.pair (.int .i64) (.pair .str .unit))) c [[]]]::[.aj (.sl 57 (.pair (.int .i64) (.pair .str .unit))) d [[]]]::uS 13 ([.aj (.sl 9 .str) e []]::[tI f]::[tI g]::uS 78 []))),nS 4 ((some ⟨bM,h,[]⟩)::nS 99 [])⟩
def Og:KX R:=(zj 2 (zj 1 (aT jL (jO R) kk (sub [1,1,1,0,1,0,0,1,1,1] (cd Tryz.f6)) (lh (ev jL (jO R) kk (sub [1,1,1,0,1,0,0] (cd Tryz.f6))) [1,2,3,7,8,22,23,24] [1,2,3,7,8] k J))))
theorem anI(a:Int)(b:(List ByteArray))(c d:ak)(e:(List ByteArray))(f g:Int)(h:av):W8 R kk (k+1) J a b c d e f g h=
 Qq a b c d e f g h (W9 R kk kk (Og R kk k J)) (fun a0 a1 a2 a3 a4=>J (.exit 0) (zpa a0 a1 a2 a3 a4)):=by kernel_rfl
theorem aiB(a:Int)(b:(List ByteArray))(c d:ak)(e:av):Oe R kk K (.exit 0) (zpa a b c d e)=
 Xb a b c d e (fun a0=>K [tB a0] none):=by kernel_rfl
theorem anJ(a:Int)(b:(List ByteArray))(c d:ak)(e:ByteArray)(f:(List ByteArray))(g h i j:Int)(l:av):W9 R kk (k+1) J a b c d e f g h i j l=
 Qr a b c d e f g h i j l (W9 R kk k J) (fun a0 a1 a2 a3 a4 a5 a6 a7=>J (.exit 2) (zpb a0 a1 a2 a3 a4 a5 a6 a7)):=by kernel_rfl
theorem aiC(a:Int)(b:(List ByteArray))(c d:ak)(e:(List ByteArray))(f g:Int)(h:av):Og R kk k J (.exit 2) (zpb a b c d e f g h)=
 Xc a b c d e f g h (W8 R kk k J):=by kernel_rfl
theorem alF{kk:Nat}(hF:kk=ag)(gS:Int)(dW:(List ByteArray))(t7 t8:ak)(t10:ByteArray)(t22:(List ByteArray))(t23 t24 t35 t36:Int)(dc:av):W9 R kk k J gS dW t7 t8 t10 t22 t23 t24 t35 t36 dc=(E7 k gS dW t7 t8 t10 t22 t23 t24 t35 t36 dc).bind fun e=>J (.exit 2) (zpb e.1 e.2.1 e.2.2.1 e.2.2.2.1 e.2.2.2.2.1 e.2.2.2.2.2.1 e.2.2.2.2.2.2.1 e.2.2.2.2.2.2.2):=by
 induction k generalizing gS dW t7 t8 t10 t22 t23 t24 t35 t36 dc with
 |zero=>rfl
 |succ k ih=>
  rw[anJ]
  simp only[E7,Qr,ih,aE]
theorem alE{kk:Nat}(hF:kk=ag)(gS:Int)(dW:(List ByteArray))(t7 t8:ak)(t22:(List ByteArray))(t23 t24:Int)(dc:av):W8 R kk k J gS dW t7 t8 t22 t23 t24 dc=(z91 k gS dW t7 t8 t22 t23 t24 dc).bind fun e=>J (.exit 0) (zpa e.1 e.2.1 e.2.2.1 e.2.2.2.1 e.2.2.2.2):=by
 induction k generalizing gS dW t7 t8 t22 t23 t24 dc with
 |zero=>rfl
 |succ k ih=>
  rw[anI]
  simp only[z91,Qq,Xc,ih,alF (hF:=hF),aiC,aE,<-hF]
def zN:ah:=jO.add 6 [bM,(.int .i64),(.sl 9 .str)] (kh bM (.int .i64) (.sl 9 .str) Hy (fun _ r K=>K [tB r] none))
theorem aaR:aO Tryz.prog zN:=ku jL Tryz.f6 (fun R kk x0 x1 x2 K=>Xa x0 x1 x2 (fun a0=>K [tB a0] none) (W8 R kk kk (Oe R kk K))) aaQ (ek _ _ _ _) Tryz.func6 (by kernel_rfl) rfl (fun _ _ _ _ _ _ h=>h _ _) (fun _ _ _ _ _ _=>by kernel_rfl) fun R kk e x0 x1 x2 K=>by
 simp only[Hy,Xa,Xb,alE (hF:=e),aiB,aE,<-e]
end
end Go.Proofs.YtpjkbbihjoflnaaGreatDoor

