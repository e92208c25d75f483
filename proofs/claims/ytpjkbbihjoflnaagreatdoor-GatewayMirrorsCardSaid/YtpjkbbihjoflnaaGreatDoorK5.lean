/- No condition. -/
import Derived.Test.YtpjkbbihjoflnaaGreatDoorK4
import Derived.Test.YtpjkbbihjoflnaaGreatDoorProg
set_option linter.unusedVariables false
set_option linter.unusedSimpArgs false
set_option maxRecDepth 100000
namespace Go.Proofs.YtpjkbbihjoflnaaGreatDoor
noncomputable section
open Go Go.Ref bj
abbrev y0:Go.Ref.Ty:=(.pair .bool (.pair (.sl 5 (.int .u8)) .unit))
abbrev y1:Go.Ref.Ty:=(.pair (.sl 109 (.pair .str (.pair .str .unit))) .unit)
abbrev y2:Go.Ref.Ty:=(.pair (.int .i64) (.pair .str (.pair (.int .i64) .unit)))
abbrev y3:Go.Ref.Ty:=(.pair (.sl 107 (.pair (.int .i64) (.pair .str .unit))) .unit)
abbrev y4:Go.Ref.Ty:=(.pair (.sl 208 (.pair (.int .i64) (.pair .str .unit))) .unit)
abbrev y5:Go.Ref.Ty:=(.pair (.int .i64) (.pair (.int .i64) (.pair (.int .i64) .unit)))
abbrev y6:Go.Ref.Ty:=(.pair (.int .i64) y0)
abbrev y7:Go.Ref.Ty:=(.pair .str y1)
abbrev y8:Go.Ref.Ty:=(.pair .str y4)
abbrev y9:Go.Ref.Ty:=(.pair (.int .i64) y2)
abbrev y10:Go.Ref.Ty:=(.pair (.int .i64) y5)
abbrev y11:Go.Ref.Ty:=(.pair (.int .i64) y7)
abbrev y12:Go.Ref.Ty:=(.pair (.sl 3 (.int .i64)) y3)
abbrev cO:Go.Ref.Ty:=(.pair (.int .i64) y10)
abbrev y14:Go.Ref.Ty:=(.pair (.int .i64) y11)
abbrev cG:Go.Ref.Ty:=(.pair (.int .i64) y14)
abbrev y16:Go.Ref.Ty:=(.pair (.sl 127 cO) .unit)
abbrev y17:Go.Ref.Ty:=(.pair (.int .i64) y16)
abbrev y18:Go.Ref.Ty:=(.pair (.sl 102 cG) .unit)
abbrev aK:Go.Ref.Ty:=(.pair (.int .i64) y17)
abbrev ci:Go.Ref.Ty:=(.pair (.sl 109 (.pair .str (.pair .str .unit))) y18)
abbrev y21:Go.Ref.Ty:=(.pair ci y12)
abbrev cB:Go.Ref.Ty:=(.pair aK y21)
abbrev bF:Go.Ref.Ty:=(.pair (.arr 2 cB) (.pair (.int .i64) .unit))
def HK:List (Option Ty):=[none,none,some (.int .i64),some (.int .i64),some .bool,some (.int .u8),some (.int .u8),some (.pair (.int .i64) (.pair (.int .i64) (.pair .bool (.pair (.int .u8) .unit)))),some (.pair (.int .i64) (.pair (.int .i64) (.pair .bool (.pair (.int .u8) .unit)))),some .str,some .str,some .str,some (.int .u64),none,none,none,none,none,none,none,none,some (.int .i32),some (.sl 127 cO),some aK,some aK,some (.sl 109 (.pair .str (.pair .str .unit))),some (.sl 102 cG),some ci,some ci,some (.sl 3 (.int .i64)),some (.sl 107 (.pair (.int .i64) (.pair .str .unit))),some cB,some cB,some (.arr 2 cB),some bF,some bF,none,none,none,some (.int .i64),none,none,none,none,none,none,some (.sl 57 (.pair (.int .i64) (.pair .str .unit))),none,none,none,none,some (.arr 2 .str),some (.arr 2 (.int .i64)),some (.arr 2 .bool),some (.pair (.arr 2 .str) (.pair (.arr 2 (.int .i64)) (.pair (.arr 2 .bool) (.pair (.int .i64) .unit)))),some (.pair (.arr 2 .str) (.pair (.arr 2 (.int .i64)) (.pair (.arr 2 .bool) (.pair (.int .i64) .unit)))),some (.pair (.int .i64) (.pair .str .unit)),some (.pair (.int .i64) (.pair .str .unit)),none,some (.sl 71 y9),none,none,none,none,none,none,some (.sl 9 .str),none,none,none,some y9,some y9,none,none,none,none,none,none,none,none,none,none,none,none,none,none,none,none,none,none,none,none,none,none,none,none,none,none,none,some (.sl 5 (.int .u8)),none,some cG,some cG,none,none,none,some (.pair (.int .i64) (.pair .str .unit)),some (.pair (.int .i64) (.pair .str .unit)),some (.pair .str (.pair .str .unit)),some (.pair .str (.pair .str .unit)),none,none,none,some y6,some y6,none,none,none,none,none,none,none,none,none,some (.sl 29 (.sl 3 (.int .i64))),none,some cO,some cO,none,none,none,none,none,none,some (.sl 24 aK),none,none,some (.int .u64),some (.pair (.int .u64) (.pair (.int .u64) .unit)),some (.pair (.int .u64) (.pair (.int .u64) .unit)),none,none,none,none,none,none,none,none,none,none,none,none,none,none,some (.int .u64),some (.sl 208 (.pair (.int .i64) (.pair .str .unit))),some y8,some y8,some (.pair (.int .i64) (.pair (.int .i64) .unit)),some (.pair (.int .i64) (.pair (.int .i64) .unit)),none,none,none,none,none,none,none,none,none,none,none,none,none,none,none,none,none,none,none,none,none,none,none,none,none,none,some (.sl 245 (.pair (.int .i64) (.pair .str .unit))),none,none,none,none,none,none,none,none,none,none,none,none,none,none,none,none,none,none,none,none,some (.pair (.int .i64) (.pair .str .unit)),some (.pair (.int .i64) (.pair .str .unit)),none,none,none,none,none,none,none,none,none,none,none,none,none,none,none,none,none,none,none,none,none,none,none,none,none,none,none,none,none,none,none,none,none,none,none,some (.pair (.int .i64) (.pair .str .unit)),some (.pair (.int .i64) (.pair .str .unit)),none,none,none,some (.sl 39 (.int .i64)),none,none,some (.arr 8 (.int .u8)),none,none,none,none,none,none,none,none,none,none,none,none,none,none,none,none,none,none,none,none,none,none,none,none,none,none,none,none,none,none,none,none,none,none,none,none,none,none,some (.arr 256 .bool),some (.arr 256 .bool),none,none,none,none,some (.int .u32),none,none,none,none,none,none,none,none,some (.arr 256 (.int .u8)),some (.pair (.int .u8) (.pair (.int .u8) .unit)),some (.pair (.int .u8) (.pair (.int .u8) .unit)),some (.arr 16 (.pair (.int .u8) (.pair (.int .u8) .unit))),none,none,none,none,none,none,none,none,some (.int .u8),some (.int .u8),none,some (.int .i32),some (.int .i32),none,none]
def bts:List Nat:=[0,8,8,8,1,1,1,24,24,16,16,16,8,24,24,8,8,8,8,8,16,4,24,40,40,24,24,48,48,24,24,136,136,272,280,280,8,8,8,8,0,8,8,8,8,8,24,0,8,8,8,32,16,2,64,64,24,24,8,24,8,8,8,8,8,8,24,8,8,8,40,40,8,8,8,8,0,8,8,8,8,8,0,8,8,16,304,304,8,0,8,8,0,8,0,8,8,8,8,24,8,64,64,8,8,8,24,24,32,32,8,8,8,40,40,8,8,8,8,0,8,0,8,8,24,8,40,40,0,8,0,8,8,8,24,8,8,8,16,16,8,8,8,8,8,8,8,8,8,8,0,8,8,8,8,24,40,40,16,16,0,8,0,8,8,0,8,8,8,8,8,8,8,8,0,8,0,8,8,8,8,8,0,8,8,8,24,0,8,8,8,8,8,8,8,8,8,32,32,16,16,0,8,8,8,8,8,24,24,8,8,0,8,0,8,8,8,0,8,0,8,0,8,0,8,8,8,8,0,8,8,8,8,0,8,8,8,0,8,8,8,8,8,8,24,24,8,8,8,24,0,8,8,8,8,8,8,0,8,0,8,8,8,8,0,8,0,8,8,0,8,8,8,8,8,8,8,8,8,8,8,8,8,8,8,8,0,8,8,8,8,256,256,0,8,8,8,4,0,8,8,0,8,8,8,8,256,2,2,32,8,8,8,40,40,0,0,0,1,1,8,4,4,48,48]
def Bu:List Bool:=[false,false,false,false,false,false,false,false,false,false,false,false,false,false,false,true,true,true,false,false,false,false,false,false,false,false,false,false,false,false,false,false,false,false,false,false,false,false,true,false,false,false,false,false,false,false,false,false,false,false,true,false,false,false,false,false,false,false,false,false,false,false,false,false,false,false,false,false,false,false,false,false,false,false,false,false,false,false,false,false,false,false,false,false,true,false,false,false,false,false,false,false,false,false,false,false,false,false,false,false,false,false,false,false,false,false,false,false,false,false,false,false,false,false,false,false,false,false,false,false,false,false,false,false,false,false,false,false,false,false,false,false,false,false,false,false,false,false,false,false,false,false,false,false,false,false,false,false,false,false,false,false,false,false,false,false,false,false,false,false,false,false,false,false,false,false,false,false,false,false,false,false,false,false,false,false,false,false,false,false,false,false,false,false,false,false,false,false,false,false,false,false,false,false,false,false,true,false,false,false,false,false,false,false,false,false,false,false,false,false,false,false,false,false,false,false,false,false,false,false,false,false,false,false,false,false,false,false,false,false,false,false,false,false,false,false,false,false,false,false,false,false,false,false,false,false,false,false,false,false,false,false,false,false,false,false,true,false,false,false,false,false,false,false,false,false,false,false,false,false,false,false,false,false,false,false,false,false,false,false,false,false,false,false,false,false,false,false,false,false,false,false,false,false,false,false,true,false,false,false,false,false,false,false,false,false,false,false,false,false,false,false,false,false,false,false,false,false,false,false,false,false,false,false,false]
def Ts:List (TypeId×TypeId×TypeId):=[(135,9,4),(277,3,4)]
def cc:sR:=⟨HK,bts,Bu,Ts⟩
theorem QG:cc.ok Tryz.prog=true:=by kernel_rfl
theorem ek:∀a b c d,ak Tryz.prog (cc.env a b c d):=sR.uD QG
abbrev e0(ps:List Ty):Env:=cc.env (fun _=>[]) (fun _=>[]) [] ps
abbrev uS(n:Nat)(l:List (List SV)):List (List SV):=Nat.rec (motive:=fun _=>List (List SV)) l (fun _ r=>[.undef]::r) n
abbrev nS(n:Nat)(l:List (Option bD)):List (Option bD):=Nat.rec (motive:=fun _=>List (Option bD)) l (fun _ r=>none::r) n
def S3:ag:=ag.none
theorem o0:aP Tryz.prog S3:= .none (by kernel_rfl)
variable (R:Type) (kk k:Nat) (K:KF R) (J:KX R)
def XW:Env:=cc.env (fun i=>bif Nat.beq i 3 then [0,3,4] else []) (fun i=>bif Nat.beq i 3 then [3] else []) [] [(.sl 9 .str)]
def Vm(a:(List ByteArray))(b:aQ)(c:Int):Option R:=az (ev XW (S3 R) kk (sub [1,1,0,1,0,0] (cd Tryz.f50))) [0,3,4] [3] k ⟨[.aj (.sl 9 .str) a []]::uS 2 ([.aj (.sl 109 (.pair .str (.pair .str .unit))) b [[]]]::[tI c]::uS 21 []),nS 27 []⟩ J
def zf4(a:aQ):State:=⟨uS 3 ([.aj (.sl 109 (.pair .str (.pair .str .unit))) a [[]]]::uS 22 []),nS 27 []⟩
def Pg:KX R:=(zk 0 (aU XW (S3 R) kk (sub [1,1,1] (cd Tryz.f50)) (aS XW Tryz.f50.results.toList none K)))
theorem ams(a:(List ByteArray))(b:aQ)(c:Int):Vm R kk (k+1) J a b c=
 zz1 a b c (Vm R kk k J) (fun a0=>J (.exit 0) (zf4 a0)):=by kernel_rfl
theorem afv(a:aQ):Pg R kk K (.exit 0) (zf4 a)=
 zz2 a (fun a0=>K [.aj (.sl 109 (.pair .str (.pair .str .unit))) a0 []] none):=by kernel_rfl
theorem ai7{kk:Nat}(hF:kk=af)(fQ:(List ByteArray))(t3:aQ)(t4:Int):Vm R kk k J fQ t3 t4=(Vn k fQ t3 t4).bind fun e=>J (.exit 0) (zf4 e):=by
 induction k generalizing fQ t3 t4 with
 |zero=>rfl
 |succ k ih=>
  rw[ams]
  simp only[Vn,zz1,ih,aC]
def Tb1:ag:=S3.add 50 [(.sl 9 .str)] (cN (.sl 9 .str) tJ (fun _ r K=>K [.aj (.sl 109 (.pair .str (.pair .str .unit))) r []] none))
theorem o1:aP Tryz.prog Tb1:=cP XW Tryz.f50 (fun R kk x0 K=>zz0 x0 (Vm R kk kk (Pg R kk K))) o0 (ek _ _ _ _) Tryz.func50 (by kernel_rfl) rfl (fun _ _ _ _ _ _ h=>h _ _) (fun _ _ _ _=>by kernel_rfl) fun R kk e x0 K=>by
 simp only[tJ,zz0,zz2,ai7 (hF:=e),afv,aC,<-e]
def JS:Env:=e0 []
def S4:ag:=Tb1.add 66 [] (Dh Z3 (fun _ r K=>K [.aj (.sl 3 (.int .i64)) r [[]]] none))
theorem o2:aP Tryz.prog S4:=HJ JS Tryz.f66 (fun R kk K=>FW (fun a0=>K [.aj (.sl 3 (.int .i64)) a0 [[]]] none)) o1 (ek _ _ _ _) Tryz.func66 (by kernel_rfl) rfl (fun _ _ _ _ _ _ h=>h _ _) (fun _ _ _=>by kernel_rfl) fun R kk e K=>by
 simp only[Z3,FW,aC]
def XV:Env:={cc.env (fun i=>bif Nat.beq i 4 then [1,2,3] else []) (fun i=>bif Nat.beq i 4 then [1] else []) [] [] with mv:=[31]}
def Vk(a:bS)(b:(List Int))(c:Int):Option R:=az (ev XV (S4 R) kk (sub [1,1,1,0,1,0,0] (cd Tryz.f48))) [1,2,3] [1] k ⟨uS 1 ([.aj (.sl 102 cG) a [[]]]::[.aj (.sl 3 (.int .i64)) b [[]]]::[tI c]::uS 28 []),nS 33 []⟩ J
def zf3(a:bS):State:=⟨uS 1 ([.aj (.sl 102 cG) a [[]]]::uS 30 []),nS 33 []⟩
def Pf:KX R:=(zk 0 (aU XV (S4 R) kk (sub [1,1,1,1] (cd Tryz.f48)) (aS XV Tryz.f48.results.toList none K)))
theorem amr(a:bS)(b:(List Int))(c:Int):Vk R kk (k+1) J a b c=
 zyy a b c (Vk R kk k J) (fun a0=>J (.exit 0) (zf3 a0)):=by kernel_rfl
theorem afu(a:bS):Pf R kk K (.exit 0) (zf3 a)=
 zyz a (fun a0=>K [.aj (.sl 102 cG) a0 [[]]] none):=by kernel_rfl
theorem ai6{kk:Nat}(hF:kk=af)(t1:bS)(t2:(List Int))(t3:Int):Vk R kk k J t1 t2 t3=(Vl k t1 t2 t3).bind fun e=>J (.exit 0) (zf3 e):=by
 induction k generalizing t1 t2 t3 with
 |zero=>rfl
 |succ k ih=>
  rw[amr]
  simp only[Vl,zyy,ih,aC]
def S5:ag:=S4.add 48 [] (Dh tH (fun _ r K=>K [.aj (.sl 102 cG) r [[]]] none))
theorem o3:aP Tryz.prog S5:=HJ XV Tryz.f48 (fun R kk K=>zyx (Vk R kk kk (Pf R kk K))) o2 ((ek _ _ _ _).mv _) Tryz.func48 (by kernel_rfl) rfl (fun _ _ _ _ _ _ h=>h _ _) (fun _ _ _=>by kernel_rfl) fun R kk e K=>by
 simp only[tH,zyx,zyz,ai6 (hF:=e),afu,aC,<-e]
def XI:Env:=cc.env (fun i=>bif Nat.beq i 3 then [0,3,4] else []) (fun i=>bif Nat.beq i 3 then [3] else []) [] [(.sl 109 (.pair .str (.pair .str .unit)))]
def UD(a b:aQ)(c:Int):Option R:=az (ev XI (S5 R) kk (sub [1,1,0,1,0,0] (cd Tryz.f51))) [0,3,4] [3] k ⟨[.aj (.sl 109 (.pair .str (.pair .str .unit))) a []]::uS 2 ([.aj (.sl 109 (.pair .str (.pair .str .unit))) b [[]]]::[tI c]::uS 22 []),nS 28 []⟩ J
def zeb(a:aQ):State:=⟨uS 3 ([.aj (.sl 109 (.pair .str (.pair .str .unit))) a [[]]]::uS 23 []),nS 28 []⟩
def O2:KX R:=(zk 0 (aU XI (S5 R) kk (sub [1,1,1] (cd Tryz.f51)) (aS XI Tryz.f51.results.toList none K)))
theorem ama(a b:aQ)(c:Int):UD R kk (k+1) J a b c=
 zx8 a b c (UD R kk k J) (fun a0=>J (.exit 0) (zeb a0)):=by kernel_rfl
theorem aeU(a:aQ):O2 R kk K (.exit 0) (zeb a)=
 zx9 a (fun a0=>K [.aj (.sl 109 (.pair .str (.pair .str .unit))) a0 []] none):=by kernel_rfl
theorem aiF{kk:Nat}(hF:kk=af)(fQ t3:aQ)(t4:Int):UD R kk k J fQ t3 t4=(UE k fQ t3 t4).bind fun e=>J (.exit 0) (zeb e):=by
 induction k generalizing fQ t3 t4 with
 |zero=>rfl
 |succ k ih=>
  rw[ama]
  simp only[UE,zx8,ih,aC]
def Tb4:ag:=S5.add 51 [(.sl 109 (.pair .str (.pair .str .unit)))] (cN (.sl 109 (.pair .str (.pair .str .unit))) oC (fun _ r K=>K [.aj (.sl 109 (.pair .str (.pair .str .unit))) r []] none))
theorem o4:aP Tryz.prog Tb4:=cP XI Tryz.f51 (fun R kk x0 K=>zx7 x0 (UD R kk kk (O2 R kk K))) o3 (ek _ _ _ _) Tryz.func51 (by kernel_rfl) rfl (fun _ _ _ _ _ _ h=>h _ _) (fun _ _ _ _=>by kernel_rfl) fun R kk e x0 K=>by
 simp only[oC,zx7,zx9,aiF (hF:=e),aeU,aC,<-e]
def JT:Env:=e0 []
def S6:ag:=Tb4.add 67 [] (Dh Z4 (fun _ r K=>K [.aj (.sl 29 (.sl 3 (.int .i64))) r [[]]] none))
theorem o5:aP Tryz.prog S6:=HJ JT Tryz.f67 (fun R kk K=>F0 (fun a0=>K [.aj (.sl 29 (.sl 3 (.int .i64))) a0 [[]]] none)) o4 (ek _ _ _ _) Tryz.func67 (by kernel_rfl) rfl (fun _ _ _ _ _ _ h=>h _ _) (fun _ _ _=>by kernel_rfl) fun R kk e K=>by
 simp only[Z4,F0,aC]
def qk:Env:=cc.env (fun i=>bif Nat.beq i 4 then [0,2,3,4,5] else []) (fun i=>bif Nat.beq i 4 then [2,3] else []) [2] [(.int .i64)]
def ZE(a:Int)(b:xF)(c:Int)(d e:ae):Option R:=az (ev qk (S6 R) kk (sub [1,1,1,0,1,0,0] (cd Tryz.f52))) [0,2,3,4,5] [2,3] k ⟨[tI a]::uS 1 ([.ptr 3 aK []]::[.ptr 4 aK []]::[.aj (.sl 29 (.sl 3 (.int .i64))) b [[]]]::[tI c]::uS 52 []),nS 3 ((some ⟨aK,d,[[2]]⟩)::(some ⟨aK,e,[[2]]⟩)::nS 54 [])⟩ J
def zqn(a b:ae):State:=⟨uS 2 ([.ptr 3 aK []]::[.ptr 4 aK []]::uS 54 []),nS 3 ((some ⟨aK,a,[[2]]⟩)::(some ⟨aK,b,[[2]]⟩)::nS 54 [])⟩
def Qj:KX R:=(zk 0 (aU qk (S6 R) kk (sub [1,1,1,1] (cd Tryz.f52)) (aS qk Tryz.f52.results.toList none K)))
theorem apx(a:Int)(b:xF)(c:Int)(d e:ae):ZE R kk (k+1) J a b c d e=
 FY a b c d e (ZE R kk k J) (fun a0 a1=>J (.exit 0) (zqn a0 a1)):=by kernel_rfl
theorem akj(a b:ae):Qj R kk K (.exit 0) (zqn a b)=
 FZ a b (fun a0=>K [.aj aK a0 [[2]]] none):=by kernel_rfl
theorem anw{kk:Nat}(hF:kk=af)(mT:Int)(t4:xF)(t5:Int)(dD dq:ae):ZE R kk k J mT t4 t5 dD dq=(ZF k mT t4 t5 dD dq).bind fun e=>J (.exit 0) (zqn e.1 e.2):=by
 induction k generalizing mT t4 t5 dD dq with
 |zero=>rfl
 |succ k ih=>
  rw[apx]
  simp only[ZF,FY,ih,aC]
def Tb6:ag:=S6.add 52 [(.int .i64)] (cN (.int .i64) S1 (fun _ r K=>K [.aj aK r [[2]]] none))
theorem o6:aP Tryz.prog Tb6:=cP qk Tryz.f52 (fun R kk x0 K=>FX x0 (ZE R kk kk (Qj R kk K))) o5 (ek _ _ _ _) Tryz.func52 (by kernel_rfl) rfl (fun _ _ _ _ _ _ h=>h _ _) (fun _ _ _ _=>by kernel_rfl) fun R kk e x0 K=>by
 simp only[S1,FX,FZ,anw (hF:=e),akj,aC,<-e]
def aot:Env:=e0 [.str,.str,.str]
def Tb7:ag:=Tb6.add 53 [.str,.str,.str] (lh .str .str .str wJ (fun _ r K=>K [.aj (.sl 107 (.pair (.int .i64) (.pair .str .unit))) r [[]]] none))
theorem o7:aP Tryz.prog Tb7:=lA aot Tryz.f53 (fun R kk x0 x1 x2 K=>zyw x0 x1 x2 (fun a0=>K [.aj (.sl 107 (.pair (.int .i64) (.pair .str .unit))) a0 [[]]] none)) o6 (ek _ _ _ _) Tryz.func53 (by kernel_rfl) rfl (fun _ _ _ _ _ _ h=>h _ _) (fun _ _ _ _ _ _=>by kernel_rfl) fun R kk e x0 x1 x2 K=>by
 simp only[wJ,zyw,aC]
def aop:Env:={cc.env (fun _=>[]) (fun _=>[]) [0] [] with sh:=[47,59]}
def Tb8:ag:=Tb7.add 33 [] (Dh wI (fun _ r K=>K [.aj bF r [[0,1,3],[0,1,2],[0,1,0,2],[0,0,3],[0,0,0,2]]] none))
theorem o8:aP Tryz.prog Tb8:=HJ aop Tryz.f33 (fun R kk K=>zyp (fun a0=>K [.aj bF a0 [[0,1,3],[0,1,2],[0,1,0,2],[0,0,3],[0,0,0,2]]] none)) o7 ((ek _ _ _ _).sh _) Tryz.func33 (by kernel_rfl) rfl (fun _ _ _ _ _ _ h=>h _ _) (fun _ _ _=>by kernel_rfl) fun R kk e K=>by
 simp only[wI,zyp,aC]
def I2:Env:=e0 [(.int .i64)]
def Tb9:ag:=Tb8.add 200 [(.int .i64)] (cN (.int .i64) yS (fun _ r K=>K [tI r] none))
theorem o9:aP Tryz.prog Tb9:=cP I2 Tryz.f200 (fun R kk x0 K=>Yk x0 (fun a0=>K [tI a0] none)) o8 (ek _ _ _ _) Tryz.func200 (by kernel_rfl) rfl (fun _ _ _ _ _ _ h=>h _ _) (fun _ _ _ _=>by kernel_rfl) fun R kk e x0 K=>by
 simp only[yS,Yk,aC]
def IY:Env:=e0 [(.int .i64)]
def JV:ag:=Tb9.add 148 [(.int .i64)] (cN (.int .i64) Cc (fun _ r K=>K [tB r] none))
theorem o10:aP Tryz.prog JV:=cP IY Tryz.f148 (fun R kk x0 K=>Yb x0 (fun a0=>K [tB a0] none)) o9 (ek _ _ _ _) Tryz.func148 (by kernel_rfl) rfl (fun _ _ _ _ _ _ h=>h _ _) (fun _ _ _ _=>by kernel_rfl) fun R kk e x0 K=>by
 simp only[Cc,Yb,aC]
def aoI:Env:=e0 [(.int .i64)]
def wW:ag:=JV.add 201 [(.int .i64)] (cN (.int .i64) kl (fun _ r K=>K [tI r] none))
theorem o11:aP Tryz.prog wW:=cP aoI Tryz.f201 (fun R kk x0 K=>RK x0 (fun a0=>K [tI a0] none)) o10 (ek _ _ _ _) Tryz.func201 (by kernel_rfl) rfl (fun _ _ _ _ _ _ h=>h _ _) (fun _ _ _ _=>by kernel_rfl) fun R kk e x0 K=>by
 simp only[kl,RK,aC]
def Yd:Env:=cc.env (fun i=>bif Nat.beq i 3 then [3,5,6] else []) (fun i=>bif Nat.beq i 3 then [3] else []) [] [(.int .i64)]
def VX(a b c:Int):Option R:=az (ev Yd (wW R) kk (sub [1,1,0,1,0,0] (cd Tryz.f149))) [3,5,6] [3] k ⟨uS 3 ([tI a]::uS 1 ([tI b]::[tI c]::uS 6 [])),nS 14 []⟩ J
def zfp(a:Int):State:=⟨uS 3 ([tI a]::uS 9 []),nS 14 []⟩
def Pn:KX R:=(zk 0 (aU Yd (wW R) kk (sub [1,1,1] (cd Tryz.f149)) (aS Yd Tryz.f149.results.toList none K)))
theorem amF(a b c:Int):VX R kk (k+1) J a b c=
 Du a b c (VX R kk k J) (fun a0=>J (.exit 0) (zfp a0)):=by kernel_rfl
theorem afO(a:Int):Pn R kk K (.exit 0) (zfp a)=
 Dv a (fun a0=>K [tI a0] none):=by kernel_rfl
theorem ajl{kk:Nat}(hF:kk=af)(t3 t5 t6:Int):VX R kk k J t3 t5 t6=(VY k t3 t5 t6).bind fun e=>J (.exit 0) (zfp e):=by
 induction k generalizing t3 t5 t6 with
 |zero=>rfl
 |succ k ih=>
  rw[amF]
  simp only[VY,Du,ih,aC]
def JW:ag:=wW.add 149 [(.int .i64)] (cN (.int .i64) rK (fun _ r K=>K [tI r] none))
theorem o12:aP Tryz.prog JW:=cP Yd Tryz.f149 (fun R kk x0 K=>zzz x0 (VX R kk kk (Pn R kk K))) o11 (ek _ _ _ _) Tryz.func149 (by kernel_rfl) rfl (fun _ _ _ _ _ _ h=>h _ _) (fun _ _ _ _=>by kernel_rfl) fun R kk e x0 K=>by
 simp only[rK,zzz,Dv,ajl (hF:=e),afO,aC,<-e]
def aoV:Env:=e0 [cO]
def wX:ag:=JW.add 96 [cO] (cN cO mi (fun _ r K=>K [tI r] none))
theorem o13:aP Tryz.prog wX:=cP aoV Tryz.f96 (fun R kk x0 K=>WD x0 (fun a0=>K [tI a0] none)) o12 (ek _ _ _ _) Tryz.func96 (by kernel_rfl) rfl (fun _ _ _ _ _ _ h=>h _ _) (fun _ _ _ _=>by kernel_rfl) fun R kk e x0 K=>by
 simp only[mi,WD,aC]
def Yi:Env:=cc.env (fun i=>bif Nat.beq i 6 then [1,26,27,28] else []) (fun i=>bif Nat.beq i 6 then [2,3] else []) [] [aK]
def Wq(a:iu)(b c:Int)(d:ae):Option R:=az (ev Yi (wX R) kk (sub [1,1,0,1,0,0] (cd Tryz.f68))) [1,26,27,28] [2,3] k ⟨uS 1 ([.ptr 2 aK []]::uS 24 ([.aj (.sl 127 cO) a []]::[tI b]::[tI c]::uS 26 [])),nS 2 ((some ⟨aK,d,[]⟩)::nS 53 [])⟩ J
def zg3(a b:Int):State:=⟨uS 2 ([tI a]::[tI b]::uS 51 []),nS 56 []⟩
def zg4:State:=⟨uS 55 [],nS 56 []⟩
def DN:KX R:=(zk 1 (aU Yi (wX R) kk (sub [1,1,1] (cd Tryz.f68)) (aS Yi Tryz.f68.results.toList none K)))
theorem amN(a:iu)(b c:Int)(d:ae):Wq R kk (k+1) J a b c d=
 RQ a b c d (fun a0 a1=>J .ret (zg3 a0 a1)) (Wq R kk k J) (J (.exit 1) (zg4)):=by kernel_rfl
theorem af2(a b:Int):DN R kk K .ret (zg3 a b)=
 Wr a b (fun a0 a1=>K [tI a0,tI a1] none):=by kernel_rfl
theorem af3:DN R kk K (.exit 1) (zg4)=
 Ws (fun a0 a1=>K [tI a0,tI a1] none):=by kernel_rfl
theorem ajt{kk:Nat}(hF:kk=af)(t26:iu)(t27 t28:Int)(cV:ae):Wq R kk k J t26 t27 t28 cV=(BT k t26 t27 t28 cV).bind fun e=>(Sum.elim (fun(we:(Int×Int))=>J .ret (zg3 we.1 we.2)) (fun(we:Unit)=>J (.exit 1) (zg4)) e):=by
 induction k generalizing t26 t27 t28 cV with
 |zero=>rfl
 |succ k ih=>
  rw[amN]
  simp only[BT,RQ,ih,aC]
def wY:ag:=wX.add 68 [aK] (cN aK nj (fun _ r K=>K [tI r.1,tI r.2] none))
theorem o14:aP Tryz.prog wY:=cP Yi Tryz.f68 (fun R kk x0 K=>Ib x0 (fun a0 a1=>K [tI a0,tI a1] none) (fun a0 a1 a2 a3=>Wq R kk kk (DN R kk K) a0 a1 a2 a3)) o13 (ek _ _ _ _) Tryz.func68 (by kernel_rfl) rfl (fun _ _ _ _ _ _ h=>h _ _) (fun _ _ _ _=>by kernel_rfl) fun R kk e x0 K=>by
 simp only[nj,acz,Wr,Ws,ajt (hF:=e),af2,af3,aC,<-e]
def Yj:Env:=cc.env (fun i=>bif Nat.beq i 2 then [1,4,9,10,11] else []) (fun i=>bif Nat.beq i 2 then [4,5] else []) [4] [aK,(.int .i64)]
def Wt(a:Int)(b:iu)(c d:Int)(e:aW):Option R:=az (ev Yj (wY R) kk (sub [1,0,1,0,0] (cd Tryz.f69))) [1,4,9,10,11] [4,5] k ⟨uS 1 ([tI a]::uS 2 ([.ptr 5 cO []]::uS 4 ([.aj (.sl 127 cO) b []]::[tI c]::[tI d]::uS 10 []))),nS 5 ((some ⟨cO,e,[]⟩)::nS 17 [])⟩ J
def zg5(a:Bool)(b:aW):State:=⟨uS 4 ([.ptr 5 cO []]::[tB a]::uS 16 []),nS 5 ((some ⟨cO,b,[]⟩)::nS 17 [])⟩
def zg6(a:aW):State:=⟨uS 4 ([.ptr 5 cO []]::uS 17 []),nS 5 ((some ⟨cO,a,[]⟩)::nS 17 [])⟩
def DO:KX R:=(zk 0 (aU Yj (wY R) kk (sub [1,1] (cd Tryz.f69)) (aS Yj Tryz.f69.results.toList none K)))
theorem amO(a:Int)(b:iu)(c d:Int)(e:aW):Wt R kk (k+1) J a b c d e=
 DP a b c d e (fun a0 a1=>J .ret (zg5 a0 a1)) (Wt R kk k J) (fun a0=>J (.exit 0) (zg6 a0)):=by kernel_rfl
theorem af4(a:Bool)(b:aW):DO R kk K .ret (zg5 a b)=
 DQ a b (fun a0 a1=>K [.aj cO a0 [],tB a1] none):=by kernel_rfl
theorem af5(a:aW):DO R kk K (.exit 0) (zg6 a)=
 DR a (fun a0 a1=>K [.aj cO a0 [],tB a1] none):=by kernel_rfl
theorem aju{kk:Nat}(hF:kk=af)(fS:Int)(t9:iu)(t10 t11:Int)(cQ:aW):Wt R kk k J fS t9 t10 t11 cQ=(RR k fS t9 t10 t11 cQ).bind fun e=>(Sum.elim (fun(we:(Bool×aW))=>J .ret (zg5 we.1 we.2)) (fun(we:aW)=>J (.exit 0) (zg6 we)) e):=by
 induction k generalizing fS t9 t10 t11 cQ with
 |zero=>rfl
 |succ k ih=>
  rw[amO]
  simp only[RR,DP,ih,aC]
def wZ:ag:=wY.add 69 [aK,(.int .i64)] (dJ aK (.int .i64) gn (fun _ r K=>K [.aj cO r.1 [],tB r.2] none))
theorem o15:aP Tryz.prog wZ:=dN Yj Tryz.f69 (fun R kk x0 x1 K=>Wu x0 x1 (Wt R kk kk (DO R kk K))) o14 (ek _ _ _ _) Tryz.func69 (by kernel_rfl) rfl (fun _ _ _ _ _ _ h=>h _ _) (fun _ _ _ _ _=>by kernel_rfl) fun R kk e x0 x1 K=>by
 simp only[gn,Wu,DQ,DR,aju (hF:=e),af4,af5,aC,<-e]
def Yn:Env:=cc.env (fun i=>bif Nat.beq i 2 then [0,1,7,8] else []) (fun i=>bif Nat.beq i 2 then [4] else []) [] [(.sl 3 (.int .i64)),(.int .i64)]
def WB(a:(List Int))(b c d:Int):Option R:=az (ev Yn (wZ R) kk (sub [1,0,1,0,0] (cd Tryz.f150))) [0,1,7,8] [4] k ⟨[.aj (.sl 3 (.int .i64)) a []]::[tI b]::uS 5 ([tI c]::[tI d]::uS 10 []),nS 20 []⟩ J
def zgb(a:Int):State:=⟨uS 4 ([tI a]::uS 14 []),nS 20 []⟩
def zgc:State:=⟨uS 19 [],nS 20 []⟩
def D1:KX R:=(zk 0 (aU Yn (wZ R) kk (sub [1,1] (cd Tryz.f150)) (aS Yn Tryz.f150.results.toList none K)))
theorem amS(a:(List Int))(b c d:Int):WB R kk (k+1) J a b c d=
 D2 a b c d (fun a0=>J .ret (zgb a0)) (WB R kk k J) (J (.exit 0) (zgc)):=by kernel_rfl
theorem aga(a:Int):D1 R kk K .ret (zgb a)=
 D3 a (fun a0=>K [tI a0] none):=by kernel_rfl
theorem agb:D1 R kk K (.exit 0) (zgc)=
 D4 (fun a0=>K [tI a0] none):=by kernel_rfl
theorem ajx{kk:Nat}(hF:kk=af)(mw:(List Int))(Z7 t7 t8:Int):WB R kk k J mw Z7 t7 t8=(RU k mw Z7 t7 t8).bind fun e=>(Sum.elim (fun(we:Int)=>J .ret (zgb we)) (fun(we:Unit)=>J (.exit 0) (zgc)) e):=by
 induction k generalizing mw Z7 t7 t8 with
 |zero=>rfl
 |succ k ih=>
  rw[amS]
  simp only[RU,D2,ih,aC]
def JX:ag:=wZ.add 150 [(.sl 3 (.int .i64)),(.int .i64)] (dJ (.sl 3 (.int .i64)) (.int .i64) wO (fun _ r K=>K [tI r] none))
theorem o16:aP Tryz.prog JX:=dN Yn Tryz.f150 (fun R kk x0 x1 K=>WC x0 x1 (WB R kk kk (D1 R kk K))) o15 (ek _ _ _ _) Tryz.func150 (by kernel_rfl) rfl (fun _ _ _ _ _ _ h=>h _ _) (fun _ _ _ _ _=>by kernel_rfl) fun R kk e x0 x1 K=>by
 simp only[wO,WC,D3,D4,ajx (hF:=e),aga,agb,aC,<-e]
def aoT:Env:=e0 [(.sl 3 (.int .i64)),(.int .i64)]
def JY:ag:=JX.add 97 [(.sl 3 (.int .i64)),(.int .i64)] (dJ (.sl 3 (.int .i64)) (.int .i64) ud (fun _ r K=>K [tB r] none))
theorem o17:aP Tryz.prog JY:=dN aoT Tryz.f97 (fun R kk x0 x1 K=>Ww x0 x1 (fun a0=>K [tB a0] none)) o16 (ek _ _ _ _) Tryz.func97 (by kernel_rfl) rfl (fun _ _ _ _ _ _ h=>h _ _) (fun _ _ _ _ _=>by kernel_rfl) fun R kk e x0 x1 K=>by
 simp only[ud,Ww,aC]
def aoL:Env:=e0 [cB,(.int .i64)]
def JZ:ag:=JY.add 70 [cB,(.int .i64)] (dJ cB (.int .i64) tZ (fun _ r K=>K [tI r] none))
theorem o18:aP Tryz.prog JZ:=dN aoL Tryz.f70 (fun R kk x0 x1 K=>We x0 x1 (fun a0=>K [tI a0] none)) o17 (ek _ _ _ _) Tryz.func70 (by kernel_rfl) rfl (fun _ _ _ _ _ _ h=>h _ _) (fun _ _ _ _ _=>by kernel_rfl) fun R kk e x0 x1 K=>by
 simp only[tZ,We,aC]
def aoK:Env:=e0 [(.pair (.int .i64) (.pair .str .unit)),.unit]
def xa:ag:=JZ.add 99 [(.pair (.int .i64) (.pair .str .unit)),.unit] (pz (.pair (.int .i64) (.pair .str .unit)) (.pair (.int .i64) (.pair .str .unit)) (.pair (.int .i64) (.pair .str .unit)) [] rN (fun _ r K=>K [tB r.1] (some ⟨(.pair (.int .i64) (.pair .str .unit)),r.2,[]⟩)))
theorem o19:aP Tryz.prog xa:=sz aoK Tryz.f99 (fun R kk x0 x1 K=>Wd x0 x1 (fun a0 a1=>K [tB a0] (some ⟨(.pair (.int .i64) (.pair .str .unit)),a1,[]⟩))) o18 (ek _ _ _ _) Tryz.func99 (by kernel_rfl) rfl (fun _ _ _ _ _ _ h=>h _ _) (fun _ _ _ _ _=>by kernel_rfl) fun R kk e x0 x1 K=>by
 simp only[rN,Wd,aC]
def Yl:Env:=cc.env (fun i=>bif Nat.beq i 2 then [0,1,7,8] else []) (fun i=>bif Nat.beq i 2 then [4] else []) [] [(.sl 107 (.pair (.int .i64) (.pair .str .unit))),.unit]
def Wx(a:ap)(b c:Int)(d:bd):Option R:=az (ev Yl (xa R) kk (sub [1,0,1,0,0] (cd Tryz.f151))) [0,1,7,8] [4] k ⟨[.aj (.sl 107 (.pair (.int .i64) (.pair .str .unit))) a []]::[.ptr 0 (.aF (.sS 99) (.pair (.int .i64) (.pair .str .unit)) .unit) []]::uS 5 ([tI b]::[tI c]::uS 10 []),(some ⟨(.pair (.int .i64) (.pair .str .unit)),d,[]⟩)::nS 19 []⟩ J
def zg7(a:Int)(b:bd):State:=⟨uS 4 ([tI a]::uS 14 []),(some ⟨(.pair (.int .i64) (.pair .str .unit)),b,[]⟩)::nS 19 []⟩
def zg8(a:bd):State:=⟨uS 19 [],(some ⟨(.pair (.int .i64) (.pair .str .unit)),a,[]⟩)::nS 19 []⟩
def DT(a:bd):KX R:=(zk 0 (aU Yl (xa R) kk (sub [1,1] (cd Tryz.f151)) (aS Yl Tryz.f151.results.toList (some ⟨(.pair (.int .i64) (.pair .str .unit)),a,[]⟩) K)))
theorem amQ(a:ap)(b c:Int)(d:bd):Wx R kk (k+1) J a b c d=
 DU a b c d (fun a0 a1=>J .ret (zg7 a0 a1)) (Wx R kk k J) (fun a0=>J (.exit 0) (zg8 a0)):=by kernel_rfl
theorem af6(a:bd)(b:Int)(c:bd):DT R kk K a .ret (zg7 b c)=
 DV b c (fun a0 a1=>K [tI a0] (some ⟨(.pair (.int .i64) (.pair .str .unit)),a1,[]⟩)):=by kernel_rfl
theorem af7(a b:bd):DT R kk K a (.exit 0) (zg8 b)=
 DW b (fun a0 a1=>K [tI a0] (some ⟨(.pair (.int .i64) (.pair .str .unit)),a1,[]⟩)):=by kernel_rfl
theorem ajv{kk:Nat}(hF:kk=af)(mw:ap)(t7 t8:Int)(recv:bd):Wx R kk k J mw t7 t8 recv=(RS k mw t7 t8 recv).bind fun e=>(Sum.elim (fun(we:(Int×bd))=>J .ret (zg7 we.1 we.2)) (fun(we:bd)=>J (.exit 0) (zg8 we)) e):=by
 induction k generalizing mw t7 t8 recv with
 |zero=>rfl
 |succ k ih=>
  rw[amQ]
  simp only[RS,DU,ih,aC]
def J0:ag:=xa.add 151 [(.sl 107 (.pair (.int .i64) (.pair .str .unit))),.unit] (pz (.sl 107 (.pair (.int .i64) (.pair .str .unit))) (.aF (.sS 99) (.pair (.int .i64) (.pair .str .unit)) .unit) (.pair (.int .i64) (.pair .str .unit)) [] wN (fun _ r K=>K [tI r.1] (some ⟨(.pair (.int .i64) (.pair .str .unit)),r.2,[]⟩)))
theorem o20:aP Tryz.prog J0:=sz Yl Tryz.f151 (fun R kk x0 x1 K=>Wy x0 x1 (Wx R kk kk (DT R kk K x1))) o19 (ek _ _ _ _) Tryz.func151 (by kernel_rfl) rfl (fun _ _ _ _ _ _ h=>h _ _) (fun _ _ _ _ _=>by kernel_rfl) fun R kk e x0 x1 K=>by
 simp only[wN,Wy,DV,DW,ajv (hF:=e),af6,af7,aC,<-e]
def aoS:Env:=e0 [(.sl 107 (.pair (.int .i64) (.pair .str .unit))),.unit]
def J1:ag:=J0.add 98 [(.sl 107 (.pair (.int .i64) (.pair .str .unit))),.unit] (pz (.sl 107 (.pair (.int .i64) (.pair .str .unit))) (.aF (.sS 99) (.pair (.int .i64) (.pair .str .unit)) .unit) (.pair (.int .i64) (.pair .str .unit)) [] uc (fun _ r K=>K [tB r.1] (some ⟨(.pair (.int .i64) (.pair .str .unit)),r.2,[]⟩)))
theorem o21:aP Tryz.prog J1:=sz aoS Tryz.f98 (fun R kk x0 x1 K=>Wv x0 x1 (fun a0 a1=>K [tB a0] (some ⟨(.pair (.int .i64) (.pair .str .unit)),a1,[]⟩))) o20 (ek _ _ _ _) Tryz.func98 (by kernel_rfl) rfl (fun _ _ _ _ _ _ h=>h _ _) (fun _ _ _ _ _=>by kernel_rfl) fun R kk e x0 x1 K=>by
 simp only[uc,Wv,aC]
def I1:Env:=e0 [(.int .u8)]
def xb:ag:=J1.add 202 [(.int .u8)] (cN (.int .u8) Cd (fun _ r K=>K [tI r] none))
theorem o22:aP Tryz.prog xb:=cP I1 Tryz.f202 (fun R kk x0 K=>z168 x0 (fun a0=>K [tI a0] none)) o21 (ek _ _ _ _) Tryz.func202 (by kernel_rfl) rfl (fun _ _ _ _ _ _ h=>h _ _) (fun _ _ _ _=>by kernel_rfl) fun R kk e x0 K=>by
 simp only[Cd,z168,aC]
def pF:Env:=cc.env (fun i=>bif Nat.beq i 3 then [1,5,6] else []) (fun i=>bif Nat.beq i 3 then [4] else []) [] [(.int .i64),.str]
def X6(a:ByteArray)(b c:Int):Option R:=az (ev pF (xb R) kk (sub [1,1,0,1,0,0] (cd Tryz.f152))) [1,5,6] [4] k ⟨uS 1 ([tS a]::uS 3 ([tI b]::[tI c]::uS 16 [])),nS 24 []⟩ J
def zpm(a:Int):State:=⟨uS 4 ([tI a]::uS 18 []),nS 24 []⟩
def zpn:State:=⟨uS 23 [],nS 24 []⟩
def EZ:KX R:=(zk 0 (aU pF (xb R) kk (sub [1,1,1] (cd Tryz.f152)) (aS pF Tryz.f152.results.toList none K)))
theorem aow(a:ByteArray)(b c:Int):X6 R kk (k+1) J a b c=
 Sj a b c (fun a0=>J .ret (zpm a0)) (X6 R kk k J) (J (.exit 0) (zpn)):=by kernel_rfl
theorem ajf(a:Int):EZ R kk K .ret (zpm a)=
 E0 a (fun a0=>K [tI a0] none):=by kernel_rfl
theorem ajg:EZ R kk K (.exit 0) (zpn)=
 z167 (fun a0=>K [tI a0] none):=by kernel_rfl
theorem amA{kk:Nat}(hF:kk=af)(j5:ByteArray)(t5 t6:Int):X6 R kk k J j5 t5 t6=(G3 k j5 t5 t6).bind fun e=>(Sum.elim (fun(we:Int)=>J .ret (zpm we)) (fun(we:Unit)=>J (.exit 0) (zpn)) e):=by
 induction k generalizing j5 t5 t6 with
 |zero=>rfl
 |succ k ih=>
  rw[aow]
  simp only[G3,Sj,ih,aC]
def J2:ag:=xb.add 152 [(.int .i64),.str] (dJ (.int .i64) .str IX (fun _ r K=>K [tI r] none))
theorem o23:aP Tryz.prog J2:=dN pF Tryz.f152 (fun R kk x0 x1 K=>X7 x0 x1 (X6 R kk kk (EZ R kk K))) o22 (ek _ _ _ _) Tryz.func152 (by kernel_rfl) rfl (fun _ _ _ _ _ _ h=>h _ _) (fun _ _ _ _ _=>by kernel_rfl) fun R kk e x0 x1 K=>by
 simp only[IX,X7,E0,z167,amA (hF:=e),ajf,ajg,aC,<-e]
def ao4:Env:=e0 [(.int .i64)]
def J3:ag:=J2.add 222 [(.int .i64)] (cN (.int .i64) oL (fun _ r K=>K [tB r] none))
theorem o24:aP Tryz.prog J3:=cP ao4 Tryz.f222 (fun R kk x0 K=>z116 x0 (fun a0=>K [tB a0] none)) o23 (ek _ _ _ _) Tryz.func222 (by kernel_rfl) rfl (fun _ _ _ _ _ _ h=>h _ _) (fun _ _ _ _=>by kernel_rfl) fun R kk e x0 K=>by
 simp only[oL,z116,aC]
def ao3:Env:=e0 [(.int .i64)]
def J4:ag:=J3.add 223 [(.int .i64)] (cN (.int .i64) uk (fun _ r K=>K [tB r] none))
theorem o25:aP Tryz.prog J4:=cP ao3 Tryz.f223 (fun R kk x0 K=>WW x0 (fun a0=>K [tB a0] none)) o24 (ek _ _ _ _) Tryz.func223 (by kernel_rfl) rfl (fun _ _ _ _ _ _ h=>h _ _) (fun _ _ _ _=>by kernel_rfl) fun R kk e x0 K=>by
 simp only[uk,WW,aC]
def ao2:Env:=e0 [.str,(.int .i64)]
def J5:ag:=J4.add 203 [.str,(.int .i64)] (dJ .str (.int .i64) ui (fun _ r K=>K [tI r.1,tI r.2.1,tI r.2.2] none))
theorem o26:aP Tryz.prog J5:=dN ao2 Tryz.f203 (fun R kk x0 x1 K=>WV x0 x1 (fun a0 a1 a2=>K [tI a0,tI a1,tI a2] none)) o25 (ek _ _ _ _) Tryz.func203 (by kernel_rfl) rfl (fun _ _ _ _ _ _ h=>h _ _) (fun _ _ _ _ _=>by kernel_rfl) fun R kk e x0 x1 K=>by
 simp only[ui,WV,aC]
def Z0:Env:=e0 [(.int .i64)]
def xc:ag:=J5.add 224 [(.int .i64)] (cN (.int .i64) Q4 (fun _ r K=>K [tI r] none))
theorem o27:aP Tryz.prog xc:=cP Z0 Tryz.f224 (fun R kk x0 K=>pU x0 (fun a0=>K [tI a0] none)) o26 (ek _ _ _ _) Tryz.func224 (by kernel_rfl) rfl (fun _ _ _ _ _ _ h=>h _ _) (fun _ _ _ _=>by kernel_rfl) fun R kk e x0 K=>by
 simp only[Q4,pU,aC]
def wS:Env:=cc.env (fun i=>bif Nat.beq i 14 then [0,1,7,8,44,45] else []) (fun i=>bif Nat.beq i 14 then [1,7,8] else []) [] [.str,(.int .i64)]
def pP(a:ByteArray)(b c d e f:Int):Option R:=az (ev wS (xc R) kk (sub [1,1,1,1,1,1,1,0,1,0,0] (cd Tryz.f204))) [0,1,7,8,44,45] [1,7,8] k ⟨[tS a]::[tI b]::uS 5 ([tI c]::[tI d]::uS 35 ([tI e]::[tI f]::uS 21 [])),nS 68 []⟩ J
def EB(a b c:Int):State:=⟨uS 1 ([tI a]::uS 5 ([tI b]::[tI c]::uS 58 [])),nS 68 []⟩
def yX:KX R:=(zk 0 (aU wS (xc R) kk (sub [1,1,1,1,1,1,1,1] (cd Tryz.f204)) (aS wS Tryz.f204.results.toList none K)))
theorem Jo(a:ByteArray)(b c d e f:Int):pP R kk (k+1) J a b c d e f=
 lG a b c d e f (pP R kk k J) (fun a0 a1 a2=>J (.exit 0) (EB a0 a1 a2)):=by kernel_rfl
theorem anc(a b c:Int):yX R kk K (.exit 0) (EB a b c)=
 lH a b c (fun a0 a1 a2=>K [tI a0,tI a1,tI a2] none):=by kernel_rfl
theorem ape{kk:Nat}(hF:kk=af)(oU:ByteArray)(Cm t7 t8 t44 t45:Int):pP R kk k J oU Cm t7 t8 t44 t45=(fy k oU Cm t7 t8 t44 t45).bind fun e=>J (.exit 0) (EB e.1 e.2.1 e.2.2):=by
 induction k generalizing oU Cm t7 t8 t44 t45 with
 |zero=>rfl
 |succ k ih=>
  rw[Jo]
  simp only[fy,lG,ih,aC]
def xd:ag:=xc.add 204 [.str,(.int .i64)] (dJ .str (.int .i64) Q3 (fun _ r K=>K [tI r.1,tI r.2.1,tI r.2.2] none))
theorem o28:aP Tryz.prog xd:=dN wS Tryz.f204 (fun R kk x0 x1 K=>lF x0 x1 (fun a0 a1 a2=>K [tI a0,tI a1,tI a2] none) (fun a0 a1 a2 a3 a4 a5=>pP R kk kk (yX R kk K) a0 a1 a2 a3 a4 a5)) o27 (ek _ _ _ _) Tryz.func204 (by kernel_rfl) rfl (fun _ _ _ _ _ _ h=>h _ _) (fun _ _ _ _ _=>by kernel_rfl) fun R kk e x0 x1 K=>by
 simp only[Q3,adN,lH,ape (hF:=e),anc,aC,<-e]
def Yt:Env:=cc.env (fun i=>bif Nat.beq i 4 then [0,5,6,7,13] else []) (fun i=>bif Nat.beq i 4 then [2,3,4,5] else []) [] [.str]
def WX(a:ByteArray)(b:ap)(c:Int)(d:Cj):Option R:=az (ev Yt (xd R) kk (sub [1,1,1,0,1,0,0] (cd Tryz.f153))) [0,5,6,7,13] [2,3,4,5] k ⟨[tS a]::uS 4 ([.aj (.sl 245 (.pair (.int .i64) (.pair .str .unit))) b [[]]]::[.ptr 14 (.aF .mp (.int .i64) .bool) []]::[tI c]::uS 5 ([.ptr 14 (.aF .mp (.int .i64) .bool) []]::uS 58 [])),nS 14 ((some ⟨(.aF .mp (.int .i64) .bool),d,[]⟩)::nS 58 [])⟩ J
def zgi(a:ap)(b c:Int)(d:ap):State:=⟨uS 2 ([.aj (.sl 245 (.pair (.int .i64) (.pair .str .unit))) a [[]]]::[tI b]::[tI c]::[.aj (.sl 245 (.pair (.int .i64) (.pair .str .unit))) d [[]]]::uS 66 []),nS 73 []⟩
def zgj(a:ap):State:=⟨uS 5 ([.aj (.sl 245 (.pair (.int .i64) (.pair .str .unit))) a [[]]]::uS 66 []),nS 73 []⟩
def z117:KX R:=(zk 0 (aU Yt (xd R) kk (sub [1,1,1,1] (cd Tryz.f153)) (aS Yt Tryz.f153.results.toList none K)))
theorem amX(a:ByteArray)(b:ap)(c:Int)(d:Cj):WX R kk (k+1) J a b c d=
 WZ a b c d (fun a0 a1 a2 a3=>J .ret (zgi a0 a1 a2 a3)) (WX R kk k J) (fun a0=>J (.exit 0) (zgj a0)):=by kernel_rfl
theorem agh(a:ap)(b c:Int)(d:ap):z117 R kk K .ret (zgi a b c d)=
 D8 a b c d (fun a0 a1 a2=>K [.aj (.sl 245 (.pair (.int .i64) (.pair .str .unit))) a0 [[]],tI a1,tI a2] none):=by kernel_rfl
theorem agi(a:ap):z117 R kk K (.exit 0) (zgj a)=
 z119 a (fun a0 a1 a2=>K [.aj (.sl 245 (.pair (.int .i64) (.pair .str .unit))) a0 [],tI a1,tI a2] none):=by kernel_rfl
theorem ajD{kk:Nat}(hF:kk=af)(oU:ByteArray)(t5:ap)(t7:Int)(ix:Cj):WX R kk k J oU t5 t7 ix=(Ig k oU t5 t7 ix).bind fun e=>(Sum.elim (fun(we:rT)=>J .ret (zgi we.1 we.2.1 we.2.2.1 we.2.2.2)) (fun(we:ap)=>J (.exit 0) (zgj we)) e):=by
 induction k generalizing oU t5 t7 ix with
 |zero=>rfl
 |succ k ih=>
  rw[amX]
  simp only[Ig,WZ,ih,aC]
def J6:ag:=xd.add 153 [.str] (cN .str um (fun _ r K=>(Sum.elim (fun(wr:jX)=>K [.aj (.sl 245 (.pair (.int .i64) (.pair .str .unit))) wr.1 [[]],tI wr.2.1,tI wr.2.2] none) (fun(wr:jX)=>K [.aj (.sl 245 (.pair (.int .i64) (.pair .str .unit))) wr.1 [],tI wr.2.1,tI wr.2.2] none) r)))
theorem o29:aP Tryz.prog J6:=cP Yt Tryz.f153 (fun R kk x0 K=>WY x0 (WX R kk kk (z117 R kk K))) o28 (ek _ _ _ _) Tryz.func153 (by kernel_rfl) rfl (fun _ _ _ _ _ _ h=>Sf (fun _=>h _ _) (fun _=>h _ _)) (fun _ _ _ _=>by kernel_rfl) fun R kk e x0 K=>by
 simp only[um,WY,D8,z119,ajD (hF:=e),agh,agi,aC,<-e]
def aoW:Env:=e0 [cO,.str]
def J7:ag:=J6.add 100 [cO,.str] (dJ cO .str bX (fun _ r K=>K [tI r] none))
theorem o30:aP Tryz.prog J7:=dN aoW Tryz.f100 (fun R kk x0 x1 K=>WE x0 x1 (fun a0=>K [tI a0] none)) o29 (ek _ _ _ _) Tryz.func100 (by kernel_rfl) rfl (fun _ _ _ _ _ _ h=>h _ _) (fun _ _ _ _ _=>by kernel_rfl) fun R kk e x0 x1 K=>by
 simp only[bX,WE,aC]
def aoJ:Env:=e0 [cB,(.int .i64),cO]
def rS:ag:=J7.add 71 [cB,(.int .i64),cO] (lh cB (.int .i64) cO tY (fun _ r K=>K [tI r] none))
theorem o31:aP Tryz.prog rS:=lA aoJ Tryz.f71 (fun R kk x0 x1 x2 K=>Wc x0 x1 x2 (fun a0=>K [tI a0] none)) o30 (ek _ _ _ _) Tryz.func71 (by kernel_rfl) rfl (fun _ _ _ _ _ _ h=>h _ _) (fun _ _ _ _ _ _=>by kernel_rfl) fun R kk e x0 x1 x2 K=>by
 simp only[tY,Wc,aC]
def G4:Env:=cc.env (fun i=>bif Nat.beq i 8 then [1,7,33,34] else bif Nat.beq i 16 then [1,7,11,46,47,48] else []) (fun i=>bif Nat.beq i 8 then [1,2,3,4,7] else bif Nat.beq i 16 then [1,2,3,4,11] else []) [] [cB]
def V3(a b:Int)(c:au)(d:aW):Option R:=az (ev G4 (rS R) kk (sub [1,1,1,1,0,1,0,0] (cd Tryz.f55))) [1,7,33,34] [1,2,3,4,7] k ⟨uS 1 ([.ptr 2 cB []]::uS 5 ([.ptr 8 cO []]::uS 25 ([tI a]::[tI b]::uS 38 []))),nS 2 ((some ⟨cB,c,[]⟩)::nS 5 ((some ⟨cO,d,[]⟩)::nS 65 []))⟩ J
def zfr(a b c:Int)(d:au)(e:aW):State:=⟨uS 1 ([.ptr 2 cB []]::[tI a]::[tI b]::[tI c]::uS 2 ([.ptr 8 cO []]::uS 65 [])),nS 2 ((some ⟨cB,d,[]⟩)::nS 5 ((some ⟨cO,e,[]⟩)::nS 65 []))⟩
def zfs(a:au)(b:aW):State:=⟨uS 1 ([.ptr 2 cB []]::uS 5 ([.ptr 8 cO []]::uS 65 [])),nS 2 ((some ⟨cB,a,[]⟩)::nS 5 ((some ⟨cO,b,[]⟩)::nS 65 []))⟩
def Dx:KX R:=(zk 0 (aU G4 (rS R) kk (sub [1,1,1,1,1] (cd Tryz.f55)) (aS G4 Tryz.f55.results.toList none K)))
def V4(a:Bool)(b:ap)(c d:Int)(e:au)(f:aW):Option R:=az (ev G4 (rS R) kk (sub [1,1,1,1,1,1,0,1,0,0] (cd Tryz.f55))) [1,7,11,46,47,48] [1,2,3,4,11] k ⟨uS 1 ([.ptr 2 cB []]::uS 5 ([.ptr 8 cO []]::uS 3 ([tB a]::uS 34 ([.aj (.sl 107 (.pair (.int .i64) (.pair .str .unit))) b []]::[tI c]::[tI d]::uS 24 [])))),nS 2 ((some ⟨cB,e,[]⟩)::nS 5 ((some ⟨cO,f,[]⟩)::nS 65 []))⟩ J
def zft(a b c:Int)(d:Bool)(e:au):State:=⟨uS 1 ([.ptr 2 cB []]::[tI a]::[tI b]::[tI c]::uS 6 ([tB d]::uS 61 [])),nS 2 ((some ⟨cB,e,[]⟩)::nS 71 [])⟩
def zfu(a:Bool)(b:au):State:=⟨uS 1 ([.ptr 2 cB []]::uS 9 ([tB a]::uS 61 [])),nS 2 ((some ⟨cB,b,[]⟩)::nS 71 [])⟩
def Dy:KX R:=(zk 2 (aU G4 (rS R) kk (sub [1,1,1,1,1,1,1] (cd Tryz.f55)) (aS G4 Tryz.f55.results.toList none K)))
theorem amH(a b:Int)(c:au)(d:aW):V3 R kk (k+1) J a b c d=
 RM a b c d (fun a0 a1 a2 a3 a4=>J .ret (zfr a0 a1 a2 a3 a4)) (V3 R kk k J) (fun a0 a1=>J (.exit 0) (zfs a0 a1)):=by kernel_rfl
theorem afQ(a b c:Int)(d:au)(e:aW):Dx R kk K .ret (zfr a b c d e)=
 z105 a b c d e (fun a0 a1 a2=>K [tI a0,tI a1,tI a2] none):=by kernel_rfl
theorem afR(a:au)(b:aW):Dx R kk K (.exit 0) (zfs a b)=
 V6 a b (V4 R kk kk (Dy R kk K)):=by kernel_rfl
theorem amI(a:Bool)(b:ap)(c d:Int)(e:au)(f:aW):V4 R kk (k+1) J a b c d e f=
 RN a b c d e f (fun a0 a1 a2 a3 a4=>J .ret (zft a0 a1 a2 a3 a4)) (V4 R kk k J) (fun a0 a1=>J (.exit 2) (zfu a0 a1)):=by kernel_rfl
theorem afS(a b c:Int)(d:Bool)(e:au):Dy R kk K .ret (zft a b c d e)=
 Dz a b c d e (fun a0 a1 a2=>K [tI a0,tI a1,tI a2] none):=by kernel_rfl
theorem afT(a:Bool)(b:au):Dy R kk K (.exit 2) (zfu a b)=
 V7 a b (fun a0 a1 a2=>K [tI a0,tI a1,tI a2] none):=by kernel_rfl
theorem ajn{kk:Nat}(hF:kk=af)(t33 t34:Int)(cV:au)(mz:aW):V3 R kk k J t33 t34 cV mz=(GM k t33 t34 cV mz).bind fun e=>(Sum.elim (fun(we:(Int×Int×Int×au×aW))=>J .ret (zfr we.1 we.2.1 we.2.2.1 we.2.2.2.1 we.2.2.2.2)) (fun(we:(au×aW))=>J (.exit 0) (zfs we.1 we.2)) e):=by
 induction k generalizing t33 t34 cV mz with
 |zero=>rfl
 |succ k ih=>
  rw[amH]
  simp only[GM,RM,ih,aC]
theorem ajo{kk:Nat}(hF:kk=af)(t11:Bool)(t46:ap)(t47 t48:Int)(cV:au)(mz:aW):V4 R kk k J t11 t46 t47 t48 cV mz=(GN k t11 t46 t47 t48 cV mz).bind fun e=>(Sum.elim (fun(we:(Int×Int×Int×Bool×au))=>J .ret (zft we.1 we.2.1 we.2.2.1 we.2.2.2.1 we.2.2.2.2)) (fun(we:(Bool×au))=>J (.exit 2) (zfu we.1 we.2)) e):=by
 induction k generalizing t11 t46 t47 t48 cV mz with
 |zero=>rfl
 |succ k ih=>
  rw[amI]
  simp only[GN,RN,ih,aC]
def xe:ag:=rS.add 55 [cB] (cN cB tW (fun _ r K=>K [tI r.1,tI r.2.1,tI r.2.2] none))
theorem o32:aP Tryz.prog xe:=cP G4 Tryz.f55 (fun R kk x0 K=>V5 x0 (fun a0 a1 a2=>K [tI a0,tI a1,tI a2] none) (V3 R kk kk (Dx R kk K))) o31 (ek _ _ _ _) Tryz.func55 (by kernel_rfl) rfl (fun _ _ _ _ _ _ h=>h _ _) (fun _ _ _ _=>by kernel_rfl) fun R kk e x0 K=>by
 simp only[tW,V5,z105,V6,Dz,V7,ajn (hF:=e),ajo (hF:=e),afQ,afR,afS,afT,aC,<-e]
def pJ:Env:=cc.env (fun i=>bif Nat.beq i 2 then [6] else []) (fun i=>bif Nat.beq i 2 then [2] else []) [] [.str]
def Yz(a:nu):Option R:=az (ev pJ (xe R) kk (sub [1,0,1,0,0] (cd Tryz.f205))) [6] [2] k ⟨uS 6 ([.ptr 7 (.aF .iter .unit .unit) []]::uS 9 []),nS 7 ((some ⟨(.aF .iter .unit .unit),a,[]⟩)::nS 9 [])⟩ J
def zps(a:Bool):State:=⟨uS 2 ([tB a]::uS 13 []),nS 17 []⟩
def zpt:State:=⟨uS 16 [],nS 17 []⟩
def E9:KX R:=(zk 0 (aU pJ (xe R) kk (sub [1,1] (cd Tryz.f205)) (aS pJ Tryz.f205.results.toList none K)))
theorem ao8(a:nu):Yz R kk (k+1) J a=
 YB a (fun a0=>J .ret (zps a0)) (Yz R kk k J) (J (.exit 0) (zpt)):=by kernel_rfl
theorem ajO(a:Bool):E9 R kk K .ret (zps a)=
 Fa a (fun a0=>K [tB a0] none):=by kernel_rfl
theorem ajP:E9 R kk K (.exit 0) (zpt)=
 Fb (fun a0=>K [tB a0] none):=by kernel_rfl
theorem am7{kk:Nat}(hF:kk=af)(ix:nu):Yz R kk k J ix=(Ir k ix).bind fun e=>(Sum.elim (fun(we:Bool)=>J .ret (zps we)) (fun(we:Unit)=>J (.exit 0) (zpt)) e):=by
 induction k generalizing ix with
 |zero=>rfl
 |succ k ih=>
  rw[ao8]
  simp only[Ir,YB,ih,aC]
def J8:ag:=xe.add 205 [.str] (cN .str yU (fun _ r K=>K [tB r] none))
theorem o33:aP Tryz.prog J8:=cP pJ Tryz.f205 (fun R kk x0 K=>YA x0 (Yz R kk kk (E9 R kk K))) o32 (ek _ _ _ _) Tryz.func205 (by kernel_rfl) rfl (fun _ _ _ _ _ _ h=>h _ _) (fun _ _ _ _=>by kernel_rfl) fun R kk e x0 K=>by
 simp only[yU,YA,Fa,Fb,am7 (hF:=e),ajO,ajP,aC,<-e]
def aoD:Env:=e0 [.str]
def J9:ag:=J8.add 154 [.str] (cN .str oI (fun _ r K=>K [tB r] none))
theorem o34:aP Tryz.prog J9:=cP aoD Tryz.f154 (fun R kk x0 K=>VU x0 (fun a0=>K [tB a0] none)) o33 (ek _ _ _ _) Tryz.func154 (by kernel_rfl) rfl (fun _ _ _ _ _ _ h=>h _ _) (fun _ _ _ _=>by kernel_rfl) fun R kk e x0 K=>by
 simp only[oI,VU,aC]
def aoE:Env:=e0 [.str]
def Ka:ag:=J9.add 101 [.str] (cN .str jU (fun _ r K=>K [tI r.1,tB r.2] none))
theorem o35:aP Tryz.prog Ka:=cP aoE Tryz.f101 (fun R kk x0 K=>VV x0 (fun a0 a1=>K [tI a0,tB a1] none)) o34 (ek _ _ _ _) Tryz.func101 (by kernel_rfl) rfl (fun _ _ _ _ _ _ h=>h _ _) (fun _ _ _ _=>by kernel_rfl) fun R kk e x0 K=>by
 simp only[jU,VV,aC]
def aoB:Env:=e0 [.str]
def Kb:ag:=Ka.add 102 [.str] (cN .str oH (fun _ r K=>K [tB r] none))
theorem o36:aP Tryz.prog Kb:=cP aoB Tryz.f102 (fun R kk x0 K=>VS x0 (fun a0=>K [tB a0] none)) o35 (ek _ _ _ _) Tryz.func102 (by kernel_rfl) rfl (fun _ _ _ _ _ _ h=>h _ _) (fun _ _ _ _=>by kernel_rfl) fun R kk e x0 K=>by
 simp only[oH,VS,aC]
def ao9:Env:=e0 [(.pair .str (.pair .str .unit)),aK,aK]
def Kc:ag:=Kb.add 72 [(.pair .str (.pair .str .unit)),aK,aK] (lh (.pair .str (.pair .str .unit)) aK aK oO (fun _ r K=>K [tB r] none))
theorem o37:aP Tryz.prog Kc:=lA ao9 Tryz.f72 (fun R kk x0 x1 x2 K=>Xl x0 x1 x2 (fun a0=>K [tB a0] none)) o36 (ek _ _ _ _) Tryz.func72 (by kernel_rfl) rfl (fun _ _ _ _ _ _ h=>h _ _) (fun _ _ _ _ _ _=>by kernel_rfl) fun R kk e x0 x1 x2 K=>by
 simp only[oO,Xl,aC]
def aoQ:Env:=cc.env (fun _=>[]) (fun _=>[]) [6,7] [cG,aK,aK]
def Kd:ag:=Kc.add 103 [cG,aK,aK] (lh cG aK aK ub (fun _ r K=>K [.aj cO r.1 [],.aj cO r.2.1 [],tI r.2.2] none))
theorem o38:aP Tryz.prog Kd:=lA aoQ Tryz.f103 (fun R kk x0 x1 x2 K=>Wm x0 x1 x2 (fun a0 a1 a2=>K [.aj cO a0 [],.aj cO a1 [],tI a2] none)) o37 (ek _ _ _ _) Tryz.func103 (by kernel_rfl) rfl (fun _ _ _ _ _ _ h=>h _ _) (fun _ _ _ _ _ _=>by kernel_rfl) fun R kk e x0 x1 x2 K=>by
 simp only[ub,Wm,aC]
def I0:Env:=e0 [(.int .i64),(.int .i64)]
def Ke:ag:=Kd.add 206 [(.int .i64),(.int .i64)] (dJ (.int .i64) (.int .i64) IZ (fun _ r K=>K [tB r] none))
theorem o39:aP Tryz.prog Ke:=dN I0 Tryz.f206 (fun R kk x0 x1 K=>Ye x0 x1 (fun a0=>K [tB a0] none)) o38 (ek _ _ _ _) Tryz.func206 (by kernel_rfl) rfl (fun _ _ _ _ _ _ h=>h _ _) (fun _ _ _ _ _=>by kernel_rfl) fun R kk e x0 x1 K=>by
 simp only[IZ,Ye,aC]
def aoY:Env:=e0 [(.int .i64),(.int .i64)]
def Kf:ag:=Ke.add 155 [(.int .i64),(.int .i64)] (dJ (.int .i64) (.int .i64) wP (fun _ r K=>K [tB r] none))
theorem o40:aP Tryz.prog Kf:=dN aoY Tryz.f155 (fun R kk x0 x1 K=>WH x0 x1 (fun a0=>K [tB a0] none)) o39 (ek _ _ _ _) Tryz.func155 (by kernel_rfl) rfl (fun _ _ _ _ _ _ h=>h _ _) (fun _ _ _ _ _=>by kernel_rfl) fun R kk e x0 x1 K=>by
 simp only[wP,WH,aC]
def aoX:Env:=e0 [cO,cO]
def Kg:ag:=Kf.add 104 [cO,cO] (dJ cO cO mj (fun _ r K=>K [tB r] none))
theorem o41:aP Tryz.prog Kg:=dN aoX Tryz.f104 (fun R kk x0 x1 K=>WG x0 x1 (fun a0=>K [tB a0] none)) o40 (ek _ _ _ _) Tryz.func104 (by kernel_rfl) rfl (fun _ _ _ _ _ _ h=>h _ _) (fun _ _ _ _ _=>by kernel_rfl) fun R kk e x0 x1 K=>by
 simp only[mj,WG,aC]
def aoR:Env:=e0 [cO]
def xf:ag:=Kg.add 105 [cO] (cN cO jV (fun _ r K=>K [tB r] none))
theorem o42:aP Tryz.prog xf:=cP aoR Tryz.f105 (fun R kk x0 K=>Wn x0 (fun a0=>K [tB a0] none)) o41 (ek _ _ _ _) Tryz.func105 (by kernel_rfl) rfl (fun _ _ _ _ _ _ h=>h _ _) (fun _ _ _ _=>by kernel_rfl) fun R kk e x0 K=>by
 simp only[jV,Wn,aC]
def pI:Env:=cc.env (fun i=>bif Nat.beq i 5 then [4,10,11,12,13] else []) (fun i=>bif Nat.beq i 5 then [2,3] else []) [] [(.sl 109 (.pair .str (.pair .str .unit)))]
def Yu(a:aQ)(b c:Int)(d:iV):Option R:=az (ev pI (xf R) kk (sub [1,1,1,0,1,0,0] (cd Tryz.f156))) [4,10,11,12,13] [2,3] k ⟨uS 4 ([.ptr 11 (.aF .mp .str .bool) []]::uS 5 ([.ptr 11 (.aF .mp .str .bool) []]::[.aj (.sl 109 (.pair .str (.pair .str .unit))) a []]::[tI b]::[tI c]::uS 13 [])),nS 11 ((some ⟨(.aF .mp .str .bool),d,[]⟩)::nS 16 [])⟩ J
def zpq(a b:Int):State:=⟨uS 2 ([tI a]::[tI b]::uS 23 []),nS 28 []⟩
def zpr:State:=⟨uS 27 [],nS 28 []⟩
def E5:KX R:=(zk 0 (aU pI (xf R) kk (sub [1,1,1,1] (cd Tryz.f156)) (aS pI Tryz.f156.results.toList none K)))
theorem ao5(a:aQ)(b c:Int)(d:iV):Yu R kk (k+1) J a b c d=
 E6 a b c d (fun a0 a1=>J .ret (zpq a0 a1)) (Yu R kk k J) (J (.exit 0) (zpr)):=by kernel_rfl
theorem ajE(a b:Int):E5 R kk K .ret (zpq a b)=
 E7 a b (fun a0 a1=>K [tI a0,tI a1] none):=by kernel_rfl
theorem ajF:E5 R kk K (.exit 0) (zpr)=
 E8 (fun a0 a1=>K [tI a0,tI a1] none):=by kernel_rfl
theorem amY{kk:Nat}(hF:kk=af)(t11:aQ)(t12 t13:Int)(cQ:iV):Yu R kk k J t11 t12 t13 cQ=(Sl k t11 t12 t13 cQ).bind fun e=>(Sum.elim (fun(we:(Int×Int))=>J .ret (zpq we.1 we.2)) (fun(we:Unit)=>J (.exit 0) (zpr)) e):=by
 induction k generalizing t11 t12 t13 cQ with
 |zero=>rfl
 |succ k ih=>
  rw[ao5]
  simp only[Sl,E6,ih,aC]
def xg:ag:=xf.add 156 [(.sl 109 (.pair .str (.pair .str .unit)))] (cN (.sl 109 (.pair .str (.pair .str .unit))) I5 (fun _ r K=>K [tI r.1,tI r.2] none))
theorem o43:aP Tryz.prog xg:=cP pI Tryz.f156 (fun R kk x0 K=>Yv x0 (fun a0 a1=>K [tI a0,tI a1] none) (Yu R kk kk (E5 R kk K))) o42 (ek _ _ _ _) Tryz.func156 (by kernel_rfl) rfl (fun _ _ _ _ _ _ h=>h _ _) (fun _ _ _ _=>by kernel_rfl) fun R kk e x0 K=>by
 simp only[I5,Yv,E7,E8,amY (hF:=e),ajE,ajF,aC,<-e]
def Yh:Env:=cc.env (fun i=>bif Nat.beq i 5 then [4,5,25,26,27] else []) (fun i=>bif Nat.beq i 5 then [6] else []) [] [(.sl 109 (.pair .str (.pair .str .unit))),cO,cO]
def Wo(a:aQ)(b c:Int)(d e:aW):Option R:=az (ev Yh (xg R) kk (sub [1,1,0,1,0,0] (cd Tryz.f106))) [4,5,25,26,27] [6] k ⟨uS 4 ([.ptr 5 cO []]::[.ptr 6 cO []]::uS 19 ([.aj (.sl 109 (.pair .str (.pair .str .unit))) a []]::[tI b]::[tI c]::uS 18 [])),nS 5 ((some ⟨cO,d,[]⟩)::(some ⟨cO,e,[]⟩)::nS 40 [])⟩ J
def zg1(a:Int):State:=⟨uS 6 ([tI a]::uS 39 []),nS 47 []⟩
def zg2:State:=⟨uS 46 [],nS 47 []⟩
def DJ:KX R:=(zk 0 (aU Yh (xg R) kk (sub [1,1,1] (cd Tryz.f106)) (aS Yh Tryz.f106.results.toList none K)))
theorem amM(a:aQ)(b c:Int)(d e:aW):Wo R kk (k+1) J a b c d e=
 DK a b c d e (fun a0=>J .ret (zg1 a0)) (Wo R kk k J) (J (.exit 0) (zg2)):=by kernel_rfl
theorem af0(a:Int):DJ R kk K .ret (zg1 a)=
 DL a (fun a0=>K [tI a0] none):=by kernel_rfl
theorem af1:DJ R kk K (.exit 0) (zg2)=
 DM (fun a0=>K [tI a0] none):=by kernel_rfl
theorem ajs{kk:Nat}(hF:kk=af)(t25:aQ)(t26 t27:Int)(cQ eG:aW):Wo R kk k J t25 t26 t27 cQ eG=(RP k t25 t26 t27 cQ eG).bind fun e=>(Sum.elim (fun(we:Int)=>J .ret (zg1 we)) (fun(we:Unit)=>J (.exit 0) (zg2)) e):=by
 induction k generalizing t25 t26 t27 cQ eG with
 |zero=>rfl
 |succ k ih=>
  rw[amM]
  simp only[RP,DK,ih,aC]
def Kh:ag:=xg.add 106 [(.sl 109 (.pair .str (.pair .str .unit))),cO,cO] (lh (.sl 109 (.pair .str (.pair .str .unit))) cO cO ni (fun _ r K=>K [tI r] none))
theorem o44:aP Tryz.prog Kh:=lA Yh Tryz.f106 (fun R kk x0 x1 x2 K=>Wp x0 x1 x2 (fun a0=>K [tI a0] none) (Wo R kk kk (DJ R kk K))) o43 (ek _ _ _ _) Tryz.func106 (by kernel_rfl) rfl (fun _ _ _ _ _ _ h=>h _ _) (fun _ _ _ _ _ _=>by kernel_rfl) fun R kk e x0 x1 x2 K=>by
 simp only[ni,Wp,DL,DM,ajs (hF:=e),af0,af1,aC,<-e]
def aoP:Env:=e0 [cG,aK,aK]
def Ki:ag:=Kh.add 73 [cG,aK,aK] (lh cG aK aK oK (fun _ r K=>K [tI r] none))
theorem o45:aP Tryz.prog Ki:=lA aoP Tryz.f73 (fun R kk x0 x1 x2 K=>Wl x0 x1 x2 (fun a0=>K [tI a0] none)) o44 (ek _ _ _ _) Tryz.func73 (by kernel_rfl) rfl (fun _ _ _ _ _ _ h=>h _ _) (fun _ _ _ _ _ _=>by kernel_rfl) fun R kk e x0 x1 x2 K=>by
 simp only[oK,Wl,aC]
def Jh:Env:=cc.env (fun _=>[]) (fun _=>[]) [2] [(.int .i64)]
def Kj:ag:=Ki.add 157 [(.int .i64)] (cN (.int .i64) Hh (fun _ r K=>K [.aj (.pair (.int .u64) (.pair (.int .u64) .unit)) r []] none))
theorem o46:aP Tryz.prog Kj:=cP Jh Tryz.f157 (fun R kk x0 K=>YQ x0 (fun a0=>K [.aj (.pair (.int .u64) (.pair (.int .u64) .unit)) a0 []] none)) o45 (ek _ _ _ _) Tryz.func157 (by kernel_rfl) rfl (fun _ _ _ _ _ _ h=>h _ _) (fun _ _ _ _=>by kernel_rfl) fun R kk e x0 K=>by
 simp only[Hh,YQ,aC]
def Jb:Env:=cc.env (fun _=>[]) (fun _=>[]) [4] [(.pair (.int .u64) (.pair (.int .u64) .unit)),(.pair (.int .u64) (.pair (.int .u64) .unit))]
def Kk:ag:=Kj.add 76 [(.pair (.int .u64) (.pair (.int .u64) .unit)),(.pair (.int .u64) (.pair (.int .u64) .unit))] (dJ (.pair (.int .u64) (.pair (.int .u64) .unit)) (.pair (.int .u64) (.pair (.int .u64) .unit)) ur (fun _ r K=>K [.aj (.pair (.int .u64) (.pair (.int .u64) .unit)) r []] none))
theorem o47:aP Tryz.prog Kk:=dN Jb Tryz.f76 (fun R kk x0 x1 K=>YM x0 x1 (fun a0=>K [.aj (.pair (.int .u64) (.pair (.int .u64) .unit)) a0 []] none)) o46 (ek _ _ _ _) Tryz.func76 (by kernel_rfl) rfl (fun _ _ _ _ _ _ h=>h _ _) (fun _ _ _ _ _=>by kernel_rfl) fun R kk e x0 x1 K=>by
 simp only[ur,YM,aC]
def Jg:Env:=cc.env (fun _=>[]) (fun _=>[]) [4] [(.pair (.int .u64) (.pair (.int .u64) .unit)),(.int .i64)]
def xh:ag:=Kk.add 107 [(.pair (.int .u64) (.pair (.int .u64) .unit)),(.int .i64)] (dJ (.pair (.int .u64) (.pair (.int .u64) .unit)) (.int .i64) yW (fun _ r K=>K [.aj (.pair (.int .u64) (.pair (.int .u64) .unit)) r []] none))
theorem o48:aP Tryz.prog xh:=dN Jg Tryz.f107 (fun R kk x0 x1 K=>YP x0 x1 (fun a0=>K [.aj (.pair (.int .u64) (.pair (.int .u64) .unit)) a0 []] none)) o47 (ek _ _ _ _) Tryz.func107 (by kernel_rfl) rfl (fun _ _ _ _ _ _ h=>h _ _) (fun _ _ _ _ _=>by kernel_rfl) fun R kk e x0 x1 K=>by
 simp only[yW,YP,aC]
def pM:Env:=cc.env (fun i=>bif Nat.beq i 3 then [2,3,6,7,8] else []) (fun i=>bif Nat.beq i 3 then [2,3] else []) [2] [(.sl 3 (.int .i64))]
def YJ(a:(List Int))(b c:Int)(d e:aT):Option R:=az (ev pM (xh R) kk (sub [1,1,0,1,0,0] (cd Tryz.f74))) [2,3,6,7,8] [2,3] k ⟨uS 2 ([.ptr 3 (.pair (.int .u64) (.pair (.int .u64) .unit)) []]::[.ptr 4 (.pair (.int .u64) (.pair (.int .u64) .unit)) []]::uS 2 ([.aj (.sl 3 (.int .i64)) a []]::[tI b]::[tI c]::uS 8 [])),nS 3 ((some ⟨(.pair (.int .u64) (.pair (.int .u64) .unit)),d,[]⟩)::(some ⟨(.pair (.int .u64) (.pair (.int .u64) .unit)),e,[]⟩)::nS 13 [])⟩ J
def zpw(a b:aT):State:=⟨uS 2 ([.ptr 3 (.pair (.int .u64) (.pair (.int .u64) .unit)) []]::[.ptr 4 (.pair (.int .u64) (.pair (.int .u64) .unit)) []]::uS 13 []),nS 3 ((some ⟨(.pair (.int .u64) (.pair (.int .u64) .unit)),a,[]⟩)::(some ⟨(.pair (.int .u64) (.pair (.int .u64) .unit)),b,[]⟩)::nS 13 [])⟩
def Qc:KX R:=(zk 0 (aU pM (xh R) kk (sub [1,1,1] (cd Tryz.f74)) (aS pM Tryz.f74.results.toList none K)))
theorem apc(a:(List Int))(b c:Int)(d e:aT):YJ R kk (k+1) J a b c d e=
 Sn a b c d e (YJ R kk k J) (fun a0 a1=>J (.exit 0) (zpw a0 a1)):=by kernel_rfl
theorem ajS(a b:aT):Qc R kk K (.exit 0) (zpw a b)=
 YL a b (fun a0=>K [.aj (.pair (.int .u64) (.pair (.int .u64) .unit)) a0 []] none):=by kernel_rfl
theorem ana{kk:Nat}(hF:kk=af)(t6:(List Int))(t7 t8:Int)(dD dq:aT):YJ R kk k J t6 t7 t8 dD dq=(BX k t6 t7 t8 dD dq).bind fun e=>J (.exit 0) (zpw e.1 e.2):=by
 induction k generalizing t6 t7 t8 dD dq with
 |zero=>rfl
 |succ k ih=>
  rw[apc]
  simp only[BX,Sn,ih,aC]
def Kl:ag:=xh.add 74 [(.sl 3 (.int .i64))] (cN (.sl 3 (.int .i64)) vL (fun _ r K=>K [.aj (.pair (.int .u64) (.pair (.int .u64) .unit)) r []] none))
theorem o49:aP Tryz.prog Kl:=cP pM Tryz.f74 (fun R kk x0 K=>YK x0 (YJ R kk kk (Qc R kk K))) o48 (ek _ _ _ _) Tryz.func74 (by kernel_rfl) rfl (fun _ _ _ _ _ _ h=>h _ _) (fun _ _ _ _=>by kernel_rfl) fun R kk e x0 K=>by
 simp only[vL,YK,YL,ana (hF:=e),ajS,aC,<-e]
def Ja:Env:=cc.env (fun _=>[]) (fun _=>[]) [4] [(.pair (.int .u64) (.pair (.int .u64) .unit)),(.pair (.int .u64) (.pair (.int .u64) .unit))]
def ns:ag:=Kl.add 75 [(.pair (.int .u64) (.pair (.int .u64) .unit)),(.pair (.int .u64) (.pair (.int .u64) .unit))] (dJ (.pair (.int .u64) (.pair (.int .u64) .unit)) (.pair (.int .u64) (.pair (.int .u64) .unit)) sQ (fun _ r K=>K [.aj (.pair (.int .u64) (.pair (.int .u64) .unit)) r []] none))
theorem o50:aP Tryz.prog ns:=dN Ja Tryz.f75 (fun R kk x0 x1 K=>Sp x0 x1 (fun a0=>K [.aj (.pair (.int .u64) (.pair (.int .u64) .unit)) a0 []] none)) o49 (ek _ _ _ _) Tryz.func75 (by kernel_rfl) rfl (fun _ _ _ _ _ _ h=>h _ _) (fun _ _ _ _ _=>by kernel_rfl) fun R kk e x0 x1 K=>by
 simp only[sQ,Sp,aC]
def ww:Env:=cc.env (fun i=>bif Nat.beq i 2 then [3,4,5,26,27,28] else bif Nat.beq i 12 then [3,4,5,13,46,48,49,50] else bif Nat.beq i 24 then [4,5,16,17,77,78,79] else []) (fun i=>bif Nat.beq i 2 then [3,4,5,6,7,8] else bif Nat.beq i 12 then [3,4,5,6,7,8] else bif Nat.beq i 24 then [6,7,8] else []) [] [ci,aK,aK]
def W6(a:oT)(b c:Int)(d:aq)(e f:ae):Option R:=az (ev ww (ns R) kk (sub [1,0,1,0,0] (cd Tryz.f56))) [3,4,5,26,27,28] [3,4,5,6,7,8] k ⟨uS 3 ([.ptr 4 ci []]::[.ptr 5 aK []]::[.ptr 6 aK []]::uS 20 ([.aj (.sl 24 aK) a [[]]]::[tI b]::[tI c]::uS 92 [])),nS 4 ((some ⟨ci,d,[]⟩)::(some ⟨aK,e,[]⟩)::(some ⟨aK,f,[]⟩)::nS 115 [])⟩ J
def zgm(a b c:Int)(d:aq)(e f:ae):State:=⟨uS 3 ([.ptr 4 ci []]::[.ptr 5 aK []]::[.ptr 6 aK []]::[tI a]::[tI b]::[tI c]::uS 112 []),nS 4 ((some ⟨ci,d,[]⟩)::(some ⟨aK,e,[]⟩)::(some ⟨aK,f,[]⟩)::nS 115 [])⟩
def zgn(a:aq)(b c:ae):State:=⟨uS 3 ([.ptr 4 ci []]::[.ptr 5 aK []]::[.ptr 6 aK []]::uS 115 []),nS 4 ((some ⟨ci,a,[]⟩)::(some ⟨aK,b,[]⟩)::(some ⟨aK,c,[]⟩)::nS 115 [])⟩
def Eb:KX R:=(zk 0 (aU ww (ns R) kk (sub [1,1] (cd Tryz.f56)) (aS ww Tryz.f56.results.toList none K)))
def W7(a:aQ)(b c:Int)(d:aq)(e f:ae)(g:iV):Option R:=az (ev ww (ns R) kk (sub [1,1,1,1,0,1,0,0] (cd Tryz.f56))) [3,4,5,13,46,48,49,50] [3,4,5,6,7,8] k ⟨uS 3 ([.ptr 4 ci []]::[.ptr 5 aK []]::[.ptr 6 aK []]::uS 7 ([.ptr 47 (.aF .mp .str .bool) []]::uS 32 ([.ptr 47 (.aF .mp .str .bool) []]::uS 1 ([.aj (.sl 109 (.pair .str (.pair .str .unit))) a []]::[tI b]::[tI c]::uS 70 [])))),nS 4 ((some ⟨ci,d,[]⟩)::(some ⟨aK,e,[]⟩)::(some ⟨aK,f,[]⟩)::nS 40 ((some ⟨(.aF .mp .str .bool),g,[]⟩)::nS 74 []))⟩ J
def zgo(a b c:Int)(d:aq)(e f:ae):State:=⟨uS 3 ([.ptr 4 ci []]::[.ptr 5 aK []]::[.ptr 6 aK []]::[tI a]::[tI b]::[tI c]::uS 112 []),nS 4 ((some ⟨ci,d,[]⟩)::(some ⟨aK,e,[]⟩)::(some ⟨aK,f,[]⟩)::nS 115 [])⟩
def zgp(a:aq)(b c:ae):State:=⟨uS 3 ([.ptr 4 ci []]::[.ptr 5 aK []]::[.ptr 6 aK []]::uS 115 []),nS 4 ((some ⟨ci,a,[]⟩)::(some ⟨aK,b,[]⟩)::(some ⟨aK,c,[]⟩)::nS 115 [])⟩
def Ec:KX R:=(zk 2 (aU ww (ns R) kk (sub [1,1,1,1,1] (cd Tryz.f56)) (aS ww Tryz.f56.results.toList none K)))
def W8(a:bS)(b c:Int)(d e:ae)(f g:aT):Option R:=az (ev ww (ns R) kk (sub [1,1,1,1,1,1,1,0,1,0,0] (cd Tryz.f56))) [4,5,16,17,77,78,79] [6,7,8] k ⟨uS 4 ([.ptr 5 aK []]::[.ptr 6 aK []]::uS 10 ([.ptr 17 (.pair (.int .u64) (.pair (.int .u64) .unit)) []]::[.ptr 18 (.pair (.int .u64) (.pair (.int .u64) .unit)) []]::uS 59 ([.aj (.sl 102 cG) a []]::[tI b]::[tI c]::uS 41 []))),nS 5 ((some ⟨aK,d,[]⟩)::(some ⟨aK,e,[]⟩)::nS 10 ((some ⟨(.pair (.int .u64) (.pair (.int .u64) .unit)),f,[]⟩)::(some ⟨(.pair (.int .u64) (.pair (.int .u64) .unit)),g,[]⟩)::nS 103 []))⟩ J
def zgq(a b c:Int):State:=⟨uS 6 ([tI a]::[tI b]::[tI c]::uS 112 []),nS 122 []⟩
def zgr:State:=⟨uS 121 [],nS 122 []⟩
def Ed:KX R:=(zk 5 (aU ww (ns R) kk (sub [1,1,1,1,1,1,1,1] (cd Tryz.f56)) (aS ww Tryz.f56.results.toList none K)))
theorem am0(a:oT)(b c:Int)(d:aq)(e f:ae):W6 R kk (k+1) J a b c d e f=
 Xa a b c d e f (fun a0 a1 a2 a3 a4 a5=>J .ret (zgm a0 a1 a2 a3 a4 a5)) (W6 R kk k J) (fun a0 a1 a2=>J (.exit 0) (zgn a0 a1 a2)):=by kernel_rfl
theorem agk(a b c:Int)(d:aq)(e f:ae):Eb R kk K .ret (zgm a b c d e f)=
 Ee a b c d e f (fun a0 a1 a2=>K [tI a0,tI a1,tI a2] none):=by kernel_rfl
theorem agl(a:aq)(b c:ae):Eb R kk K (.exit 0) (zgn a b c)=
 Xb a b c (fun a0 a1 a2=>K [tI a0,tI a1,tI a2] none) (W7 R kk kk (Ec R kk K)):=by kernel_rfl
theorem am1(a:aQ)(b c:Int)(d:aq)(e f:ae)(g:iV):W7 R kk (k+1) J a b c d e f g=
 Ef a b c d e f g (fun a0 a1 a2 a3 a4 a5=>J .ret (zgo a0 a1 a2 a3 a4 a5)) (W7 R kk k J) (fun a0 a1 a2=>J (.exit 2) (zgp a0 a1 a2)):=by kernel_rfl
theorem agm(a b c:Int)(d:aq)(e f:ae):Ec R kk K .ret (zgo a b c d e f)=
 Eg a b c d e f (fun a0 a1 a2=>K [tI a0,tI a1,tI a2] none):=by kernel_rfl
theorem agn(a:aq)(b c:ae):Ec R kk K (.exit 2) (zgp a b c)=
 Xc a b c (fun a0 a1 a2=>K [tI a0,tI a1,tI a2] none) (W8 R kk kk (Ed R kk K)):=by kernel_rfl
theorem am2(a:bS)(b c:Int)(d e:ae)(f g:aT):W8 R kk (k+1) J a b c d e f g=
 Eh a b c d e f g (fun a0 a1 a2=>J .ret (zgq a0 a1 a2)) (W8 R kk k J) (J (.exit 5) (zgr)):=by kernel_rfl
theorem ago(a b c:Int):Ed R kk K .ret (zgq a b c)=
 Ei a b c (fun a0 a1 a2=>K [tI a0,tI a1,tI a2] none):=by kernel_rfl
theorem agp:Ed R kk K (.exit 5) (zgr)=
 Ej (fun a0 a1 a2=>K [tI a0,tI a1,tI a2] none):=by kernel_rfl
theorem ajH{kk:Nat}(hF:kk=af)(t26:oT)(t27 t28:Int)(dq:aq)(cQ eG:ae):W6 R kk k J t26 t27 t28 dq cQ eG=(Ih k t26 t27 t28 dq cQ eG).bind fun e=>(Sum.elim (fun(we:mu)=>J .ret (zgm we.1 we.2.1 we.2.2.1 we.2.2.2.1 we.2.2.2.2.1 we.2.2.2.2.2)) (fun(we:mr)=>J (.exit 0) (zgn we.1 we.2.1 we.2.2)) e):=by
 induction k generalizing t26 t27 t28 dq cQ eG with
 |zero=>rfl
 |succ k ih=>
  rw[am0]
  simp only[Ih,Xa,ih,aC]
theorem ajI{kk:Nat}(hF:kk=af)(t48:aQ)(t49 t50:Int)(dq:aq)(cQ eG:ae)(Cp:iV):W7 R kk k J t48 t49 t50 dq cQ eG Cp=(Ii k t48 t49 t50 dq cQ eG Cp).bind fun e=>(Sum.elim (fun(we:mu)=>J .ret (zgo we.1 we.2.1 we.2.2.1 we.2.2.2.1 we.2.2.2.2.1 we.2.2.2.2.2)) (fun(we:mr)=>J (.exit 2) (zgp we.1 we.2.1 we.2.2)) e):=by
 induction k generalizing t48 t49 t50 dq cQ eG Cp with
 |zero=>rfl
 |succ k ih=>
  rw[am1]
  simp only[Ii,Ef,ih,aC]
theorem ajJ{kk:Nat}(hF:kk=af)(t77:bS)(t78 t79:Int)(cQ eG:ae)(ku Cq:aT):W8 R kk k J t77 t78 t79 cQ eG ku Cq=(RX k t77 t78 t79 cQ eG ku Cq).bind fun e=>(Sum.elim (fun(we:jW)=>J .ret (zgq we.1 we.2.1 we.2.2)) (fun(we:Unit)=>J (.exit 5) (zgr)) e):=by
 induction k generalizing t77 t78 t79 cQ eG ku Cq with
 |zero=>rfl
 |succ k ih=>
  rw[am2]
  simp only[RX,Eh,ih,aC]
def xi:ag:=ns.add 56 [ci,aK,aK] (lh ci aK aK rQ (fun _ r K=>K [tI r.1,tI r.2.1,tI r.2.2] none))
theorem o51:aP Tryz.prog xi:=lA ww Tryz.f56 (fun R kk x0 x1 x2 K=>W9 x0 x1 x2 (W6 R kk kk (Eb R kk K))) o50 (ek _ _ _ _) Tryz.func56 (by kernel_rfl) rfl (fun _ _ _ _ _ _ h=>h _ _) (fun _ _ _ _ _ _=>by kernel_rfl) fun R kk e x0 x1 x2 K=>by
 simp only[rQ,W9,Ee,Xb,Eg,Xc,Ei,Ej,ajH (hF:=e),ajI (hF:=e),ajJ (hF:=e),agk,agl,agm,agn,ago,agp,aC,<-e]
def Yg:Env:=cc.env (fun i=>bif Nat.beq i 4 then [1,22,23] else []) (fun i=>bif Nat.beq i 4 then [2,3,4] else []) [] [bF]
def Wg(a:nv)(b:Int)(c:ar):Option R:=az (ev Yg (xi R) kk (sub [1,1,0,1,0,0] (cd Tryz.f36))) [1,22,23] [2,3,4] k ⟨uS 1 ([.ptr 2 bF []]::uS 20 ([.aj (.arr 2 cB) a []]::[tI b]::uS 33 [])),nS 2 ((some ⟨bF,c,[]⟩)::nS 55 [])⟩ J
def zfz(a b c:Int):State:=⟨uS 2 ([tI a]::[tI b]::[tI c]::uS 52 []),nS 58 []⟩
def zg0:State:=⟨uS 57 [],nS 58 []⟩
def DG:KX R:=(zk 0 (aU Yg (xi R) kk (sub [1,1,1] (cd Tryz.f36)) (aS Yg Tryz.f36.results.toList none K)))
theorem amL(a:nv)(b:Int)(c:ar):Wg R kk (k+1) J a b c=
 Ia a b c (fun a0 a1 a2=>J .ret (zfz a0 a1 a2)) (Wg R kk k J) (J (.exit 0) (zg0)):=by kernel_rfl
theorem afY(a b c:Int):DG R kk K .ret (zfz a b c)=
 DH a b c (fun a0 a1 a2=>K [tI a0,tI a1,tI a2] none):=by kernel_rfl
theorem afZ:DG R kk K (.exit 0) (zg0)=
 DI (fun a0 a1 a2=>K [tI a0,tI a1,tI a2] none):=by kernel_rfl
theorem ajr{kk:Nat}(hF:kk=af)(t22:nv)(t23:Int)(cV:ar):Wg R kk k J t22 t23 cV=(GO k t22 t23 cV).bind fun e=>(Sum.elim (fun(we:jW)=>J .ret (zfz we.1 we.2.1 we.2.2)) (fun(we:Unit)=>J (.exit 0) (zg0)) e):=by
 induction k generalizing t22 t23 cV with
 |zero=>rfl
 |succ k ih=>
  rw[amL]
  simp only[GO,Ia,ih,aC]
def xj:ag:=xi.add 36 [bF] (cN bF rO (fun _ r K=>K [tI r.1,tI r.2.1,tI r.2.2] none))
theorem o52:aP Tryz.prog xj:=cP Yg Tryz.f36 (fun R kk x0 K=>Wh x0 (fun a0 a1 a2=>K [tI a0,tI a1,tI a2] none) (Wg R kk kk (DG R kk K))) o51 (ek _ _ _ _) Tryz.func36 (by kernel_rfl) rfl (fun _ _ _ _ _ _ h=>h _ _) (fun _ _ _ _=>by kernel_rfl) fun R kk e x0 K=>by
 simp only[rO,Wh,DH,DI,ajr (hF:=e),afY,afZ,aC,<-e]
def pT:Env:=cc.env (fun i=>bif Nat.beq i 5 then [1,2,3,25,26,27] else []) (fun i=>bif Nat.beq i 5 then [1,2,3] else []) [2] [cB]
def Y6(a b:bS)(c d:Int)(e f:au):Option R:=az (ev pT (xj R) kk (sub [1,1,1,1,0,1,0,0] (cd Tryz.f37))) [1,2,3,25,26,27] [1,2,3] k ⟨uS 1 ([.ptr 2 cB []]::[.ptr 3 cB []]::[.aj (.sl 102 cG) a [[]]]::uS 21 ([.aj (.sl 102 cG) b []]::[tI c]::[tI d]::uS 24 [])),nS 2 ((some ⟨cB,e,[[0,2],[1,0]]⟩)::(some ⟨cB,f,[[0,2],[1,0],[1,1],[2],[3]]⟩)::nS 49 [])⟩ J
def zq2(a:bS)(b c:au):State:=⟨uS 1 ([.ptr 2 cB []]::[.ptr 3 cB []]::[.aj (.sl 102 cG) a [[]]]::uS 48 []),nS 2 ((some ⟨cB,b,[[0,2],[1,0]]⟩)::(some ⟨cB,c,[[0,2],[1,0],[1,1],[2],[3]]⟩)::nS 49 [])⟩
def Qg:KX R:=(zk 0 (aU pT (xj R) kk (sub [1,1,1,1,1] (cd Tryz.f37)) (aS pT Tryz.f37.results.toList none K)))
theorem api(a b:bS)(c d:Int)(e f:au):Y6 R kk (k+1) J a b c d e f=
 Fs a b c d e f (Y6 R kk k J) (fun a0 a1 a2=>J (.exit 0) (zq2 a0 a1 a2)):=by kernel_rfl
theorem ajY(a:bS)(b c:au):Qg R kk K (.exit 0) (zq2 a b c)=
 Y8 a b c (fun a0=>K [.aj cB a0 [[3],[2],[0,2],[1,0]]] none):=by kernel_rfl
theorem anh{kk:Nat}(hF:kk=af)(t3 t25:bS)(t26 t27:Int)(cV dD:au):Y6 R kk k J t3 t25 t26 t27 cV dD=(St k t3 t25 t26 t27 cV dD).bind fun e=>J (.exit 0) (zq2 e.1 e.2.1 e.2.2):=by
 induction k generalizing t3 t25 t26 t27 cV dD with
 |zero=>rfl
 |succ k ih=>
  rw[api]
  simp only[St,Fs,ih,aC]
def Km:ag:=xj.add 37 [cB] (cN cB Jv (fun _ r K=>K [.aj cB r [[3],[2],[0,2],[1,0]]] none))
theorem o53:aP Tryz.prog Km:=cP pT Tryz.f37 (fun R kk x0 K=>Y7 x0 (Y6 R kk kk (Qg R kk K))) o52 (ek _ _ _ _) Tryz.func37 (by kernel_rfl) rfl (fun _ _ _ _ _ _ h=>h _ _) (fun _ _ _ _=>by kernel_rfl) fun R kk e x0 K=>by
 simp only[Jv,Y7,Y8,anh (hF:=e),ajY,aC,<-e]
def Jn:Env:=e0 [(.int .i64)]
def xk:ag:=Km.add 38 [(.int .i64)] (cN (.int .i64) Jm (fun _ r K=>(Sum.elim (fun(wr:Int)=>K [.eh,tI wr] none) (fun(wr:ux)=>K [.ptr 0 y6 [],tI wr.1] (some ⟨y6,wr.2,[[2]]⟩)) r)))
theorem o54:aP Tryz.prog xk:=cP Jn Tryz.f38 (fun R kk x0 K=>YW x0 (fun a0=>K [.eh,tI a0] none) (fun a0 a1=>K [.ptr 0 y6 [],tI a0] (some ⟨y6,a1,[[2]]⟩))) o53 (ek _ _ _ _) Tryz.func38 (by kernel_rfl) rfl (fun _ _ _ _ _ _ h=>Sf (fun _=>h _ _) (fun _=>h _ _)) (fun _ _ _ _=>by kernel_rfl) fun R kk e x0 K=>by
 simp only[Jm,YW,aC]
def pS:Env:={{cc.env (fun i=>bif Nat.beq i 6 then [1,7,19,20] else []) (fun i=>bif Nat.beq i 6 then [7,19] else []) [] [bF] with sg:=some (4,9,7)} with gr:=fun t=>bif Nat.beq t 87 then some (bF,y6) else none,ga:=fun t=>Nat.beq t 85}
def Y3(a:Int)(b:ar)(c:(ar×(Option ah×Option ah)×Int)):Option R:=az (ev pS (xk R) kk (sub [1,1,1,0,1,0,0] (cd Tryz.f12))) [1,7,19,20] [7,19] k ⟨uS 1 ([.ptr 2 bF []]::uS 5 ([.ptr 20 (.aF .bC bF y6) []]::uS 12 ([tI a]::uS 26 []))),nS 2 ((some ⟨bF,b,[]⟩)::nS 17 ((some ⟨(.aF .bC bF y6),c,[[],[0],[0,2],[1],[1,2]]⟩)::nS 27 []))⟩ J
def zq1(a:(ar×(Option ah×Option ah)×Int)):State:=⟨uS 7 ([.ptr 20 (.aF .bC bF y6) []]::uS 39 []),nS 20 ((some ⟨(.aF .bC bF y6),a,[[],[0],[0,2],[1],[1,2]]⟩)::nS 27 [])⟩
def Qf:KX R:=(zk 0 (aU pS (xk R) kk (sub [1,1,1,1] (cd Tryz.f12)) (aS pS Tryz.f12.results.toList none K)))
theorem aph(a:Int)(b:ar)(c:(ar×(Option ah×Option ah)×Int)):Y3 R kk (k+1) J a b c=
 Iv a b c (Y3 R kk k J) (fun a0=>J (.exit 0) (zq1 a0)):=by kernel_rfl
theorem ajX(a:(ar×(Option ah×Option ah)×Int)):Qf R kk K (.exit 0) (zq1 a)=
 Fq a (fun a0 a1=>K [.ptr 0 (.aF .bC bF y6) [],tI a0] (some ⟨(.aF .bC bF y6),a1,[[],[0],[0,2],[1],[1,2]]⟩)):=by kernel_rfl
theorem ang{kk:Nat}(hF:kk=af)(t20:Int)(cV:ar)(mz:(ar×(Option ah×Option ah)×Int)):Y3 R kk k J t20 cV mz=(G9 k t20 cV mz).bind fun e=>J (.exit 0) (zq1 e):=by
 induction k generalizing t20 cV mz with
 |zero=>rfl
 |succ k ih=>
  rw[aph]
  simp only[G9,Iv,ih,aC]
def Kn:ag:=xk.add 12 [bF] (cN bF yZ (fun _ r K=>(Sum.elim (fun(wr:Int)=>K [.eh,tI wr] none) (fun(wr:(Int×(ar×(Option ah×Option ah)×Int)))=>K [.ptr 0 (.aF .bC bF y6) [],tI wr.1] (some ⟨(.aF .bC bF y6),wr.2,[[],[0],[0,2],[1],[1,2]]⟩)) r)))
theorem o55:aP Tryz.prog Kn:=cP pS Tryz.f12 (fun R kk x0 K=>Y4 x0 (fun a0=>K [.eh,tI a0] none) (Y3 R kk kk (Qf R kk K))) o54 (((ek _ _ _ _).sg _).bC 87 85 bF y6 (by kernel_rfl) (by kernel_rfl) (by kernel_rfl) (by kernel_rfl)) Tryz.func12 (by kernel_rfl) rfl (fun _ _ _ _ _ _ h=>Sf (fun _=>h _ _) (fun _=>h _ _)) (fun _ _ _ _=>by kernel_rfl) fun R kk e x0 K=>by
 simp only[yZ,Y4,Fq,ang (hF:=e),ajX,aC,<-e]
def Ju:Env:=e0 [(.int .i64)]
def Ko:ag:=Kn.add 42 [(.int .i64)] (cN (.int .i64) Cg (fun _ r K=>K [tB r] none))
theorem o56:aP Tryz.prog Ko:=cP Ju Tryz.f42 (fun R kk x0 K=>Y5 x0 (fun a0=>K [tB a0] none)) o55 (ek _ _ _ _) Tryz.func42 (by kernel_rfl) rfl (fun _ _ _ _ _ _ h=>h _ _) (fun _ _ _ _=>by kernel_rfl) fun R kk e x0 K=>by
 simp only[Cg,Y5,aC]
def Jl:Env:=e0 [.unit]
def xl:ag:=Ko.add 62 [.unit] (HI y6 [[2]] Jk (fun _ r K=>K [tI r.1] (some ⟨y6,r.2,[[2]]⟩)))
theorem o57:aP Tryz.prog xl:=TB Jl Tryz.f62 (fun R kk x0 K=>YV x0 (fun a0 a1=>K [tI a0] (some ⟨y6,a1,[[2]]⟩))) o56 (ek _ _ _ _) Tryz.func62 (by kernel_rfl) rfl (fun _ _ _ _ _ _ h=>h _ _) (fun _ _ _ _=>by kernel_rfl) fun R kk e x0 K=>by
 simp only[Jk,YV,aC]
def pO:Env:=cc.env (fun i=>bif Nat.beq i 3 then [0,1,6,7] else []) (fun i=>bif Nat.beq i 3 then [4,5,6] else []) [] [.unit,.str]
def YR(a:ByteArray)(b:(List ByteArray))(c:Int)(d:ah):Option R:=az (ev pO (xl R) kk (sub [1,1,0,1,0,0] (cd Tryz.f45))) [0,1,6,7] [4,5,6] k ⟨[.ptr 0 y6 []]::[tS a]::uS 4 ([.aj (.sl 9 .str) b [[]]]::[tI c]::uS 80 []),(some ⟨y6,d,[[2]]⟩)::nS 88 []⟩ J
def zpx(a:(List ByteArray))(b:Bool)(c:(List ByteArray))(d:ah):State:=⟨uS 4 ([.aj (.sl 9 .str) a []]::[tB b]::[.aj (.sl 9 .str) c [[]]]::uS 81 []),(some ⟨y6,d,[[2]]⟩)::nS 88 []⟩
def zpy(a:(List ByteArray))(b:ah):State:=⟨uS 6 ([.aj (.sl 9 .str) a [[]]]::uS 81 []),(some ⟨y6,b,[[2]]⟩)::nS 88 []⟩
def Fh(a:ah):KX R:=(zk 0 (aU pO (xl R) kk (sub [1,1,1] (cd Tryz.f45)) (aS pO Tryz.f45.results.toList (some ⟨y6,a,[[2]]⟩) K)))
theorem apd(a:ByteArray)(b:(List ByteArray))(c:Int)(d:ah):YR R kk (k+1) J a b c d=
 Sq a b c d (fun a0 a1 a2 a3=>J .ret (zpx a0 a1 a2 a3)) (YR R kk k J) (fun a0 a1=>J (.exit 0) (zpy a0 a1)):=by kernel_rfl
theorem ajT(a:ah)(b:(List ByteArray))(c:Bool)(d:(List ByteArray))(e:ah):Fh R kk K a .ret (zpx b c d e)=
 YT b c d e (fun a0 a1 a2=>K [.aj (.sl 9 .str) a0 [],tB a1] (some ⟨y6,a2,[[2]]⟩)):=by kernel_rfl
theorem ajU(a:ah)(b:(List ByteArray))(c:ah):Fh R kk K a (.exit 0) (zpy b c)=
 YU b c (fun a0 a1 a2=>K [.aj (.sl 9 .str) a0 [],tB a1] (some ⟨y6,a2,[[2]]⟩)):=by kernel_rfl
theorem anb{kk:Nat}(hF:kk=af)(mA:ByteArray)(t6:(List ByteArray))(t7:Int)(recv:ah):YR R kk k J mA t6 t7 recv=(G8 k mA t6 t7 recv).bind fun e=>(Sum.elim (fun(we:((List ByteArray)×Bool×(List ByteArray)×ah))=>J .ret (zpx we.1 we.2.1 we.2.2.1 we.2.2.2)) (fun(we:((List ByteArray)×ah))=>J (.exit 0) (zpy we.1 we.2)) e):=by
 induction k generalizing mA t6 t7 recv with
 |zero=>rfl
 |succ k ih=>
  rw[apd]
  simp only[G8,Sq,ih,aC]
def Kp:ag:=xl.add 45 [.unit,.str] (Dg y6 [[2]] .str Ce (fun _ r K=>K [.aj (.sl 9 .str) r.1 [],tB r.2.1] (some ⟨y6,r.2.2,[[2]]⟩)))
theorem o58:aP Tryz.prog Kp:=Mc pO Tryz.f45 (fun R kk x0 x1 K=>YS x0 x1 (YR R kk kk (Fh R kk K x0))) o57 (ek _ _ _ _) Tryz.func45 (by kernel_rfl) rfl (fun _ _ _ _ _ _ h=>h _ _) (fun _ _ _ _ _=>by kernel_rfl) fun R kk e x0 x1 K=>by
 simp only[Ce,YS,YT,YU,anb (hF:=e),ajT,ajU,aC,<-e]
def ZX:Env:=e0 [(.int .i64)]
def xm:ag:=Kp.add 177 [(.int .i64)] (cN (.int .i64) Q2 (fun _ r K=>K [tI r] none))
theorem o59:aP Tryz.prog xm:=cP ZX Tryz.f177 (fun R kk x0 K=>pN x0 (fun a0=>K [tI a0] none)) o58 (ek _ _ _ _) Tryz.func177 (by kernel_rfl) rfl (fun _ _ _ _ _ _ h=>h _ _) (fun _ _ _ _=>by kernel_rfl) fun R kk e x0 K=>by
 simp only[Q2,pN,aC]
def wF:Env:=cc.env (fun i=>bif Nat.beq i 7 then [0,1,7,30,31] else []) (fun i=>bif Nat.beq i 7 then [1,4,5,6,7] else []) [] [.str,(.int .i64)]
def pC(a:ByteArray)(b:Int)(c:(List Int))(d e:Int):Option R:=az (ev wF (xm R) kk (sub [1,1,1,0,1,0,0] (cd Tryz.f178))) [0,1,7,30,31] [1,4,5,6,7] k ⟨[tS a]::[tI b]::uS 5 ([.aj (.sl 5 (.int .u8)) c [[]]]::uS 22 ([tI d]::[tI e]::uS 43 [])),nS 76 []⟩ J
def zx2(a:Int)(b:ByteArray)(c d:Int)(e:(List Int)):State:=⟨uS 1 ([tI a]::uS 2 ([tS b]::[tI c]::[tI d]::[.aj (.sl 5 (.int .u8)) e [[]]]::uS 67 [])),nS 76 []⟩
def zx3(a:Int)(b:(List Int)):State:=⟨uS 1 ([tI a]::uS 5 ([.aj (.sl 5 (.int .u8)) b [[]]]::uS 67 [])),nS 76 []⟩
def tj:KX R:=(zk 1 (aU wF (xm R) kk (sub [1,1,1,1] (cd Tryz.f178)) (aS wF Tryz.f178.results.toList none K)))
theorem IL(a:ByteArray)(b:Int)(c:(List Int))(d e:Int):pC R kk (k+1) J a b c d e=
 ng a b c d e (fun a0 a1 a2 a3 a4=>J .ret (zx2 a0 a1 a2 a3 a4)) (pC R kk k J) (fun a0 a1=>J (.exit 1) (zx3 a0 a1)):=by kernel_rfl
theorem al7(a:Int)(b:ByteArray)(c d:Int)(e:(List Int)):tj R kk K .ret (zx2 a b c d e)=
 tk a b c d e (fun a0 a1 a2=>K [tS a0,tI a1,tI a2] none):=by kernel_rfl
theorem al8(a:Int)(b:(List Int)):tj R kk K (.exit 1) (zx3 a b)=
 pE a b (fun a0 a1 a2=>K [tS a0,tI a1,tI a2] none):=by kernel_rfl
theorem aoh{kk:Nat}(hF:kk=af)(oU:ByteArray)(mO:Int)(t7:(List Int))(t30 t31:Int):pC R kk k J oU mO t7 t30 t31=(jF k oU mO t7 t30 t31).bind fun e=>(Sum.elim (fun(we:(Int×ByteArray×Int×Int×(List Int)))=>J .ret (zx2 we.1 we.2.1 we.2.2.1 we.2.2.2.1 we.2.2.2.2)) (fun(we:(Int×(List Int)))=>J (.exit 1) (zx3 we.1 we.2)) e):=by
 induction k generalizing oU mO t7 t30 t31 with
 |zero=>rfl
 |succ k ih=>
  rw[IL]
  simp only[jF,ng,ih,aC]
def Kq:ag:=xm.add 178 [.str,(.int .i64)] (dJ .str (.int .i64) Q0 (fun _ r K=>K [tS r.1,tI r.2.1,tI r.2.2] none))
theorem o60:aP Tryz.prog Kq:=dN wF Tryz.f178 (fun R kk x0 x1 K=>pD x0 x1 (fun a0 a1 a2=>K [tS a0,tI a1,tI a2] none) (pC R kk kk (tj R kk K))) o59 (ek _ _ _ _) Tryz.func178 (by kernel_rfl) rfl (fun _ _ _ _ _ _ h=>h _ _) (fun _ _ _ _ _=>by kernel_rfl) fun R kk e x0 x1 K=>by
 simp only[Q0,pD,tk,pE,aoh (hF:=e),al7,al8,aC,<-e]
def aoZ:Env:=e0 [aK,.str]
def Kr:ag:=Kq.add 129 [aK,.str] (dJ aK .str ug (fun _ r K=>K [tS r.1,tI r.2.1,tI r.2.2] none))
theorem o61:aP Tryz.prog Kr:=dN aoZ Tryz.f129 (fun R kk x0 x1 K=>WK x0 x1 (fun a0 a1 a2=>K [tS a0,tI a1,tI a2] none)) o60 (ek _ _ _ _) Tryz.func129 (by kernel_rfl) rfl (fun _ _ _ _ _ _ h=>h _ _) (fun _ _ _ _ _=>by kernel_rfl) fun R kk e x0 x1 K=>by
 simp only[ug,WK,aC]
def Z5:Env:=e0 [(.int .i64)]
def Ks:ag:=Kr.add 169 [(.int .i64)] (cN (.int .i64) Q9 (fun _ r K=>K [tB r] none))
theorem o62:aP Tryz.prog Ks:=cP Z5 Tryz.f169 (fun R kk x0 K=>nr x0 (fun a0=>K [tB a0] none)) o61 (ek _ _ _ _) Tryz.func169 (by kernel_rfl) rfl (fun _ _ _ _ _ _ h=>h _ _) (fun _ _ _ _=>by kernel_rfl) fun R kk e x0 K=>by
 simp only[Q9,nr,aC]
def aov:Env:=e0 [(.int .u8)]
def xn:ag:=Ks.add 214 [(.int .u8)] (cN (.int .u8) tM (fun _ r K=>K [tI r.1,tB r.2] none))
theorem o63:aP Tryz.prog xn:=cP aov Tryz.f214 (fun R kk x0 K=>zzh x0 (fun a0 a1=>K [tI a0,tB a1] none)) o62 (ek _ _ _ _) Tryz.func214 (by kernel_rfl) rfl (fun _ _ _ _ _ _ h=>h _ _) (fun _ _ _ _=>by kernel_rfl) fun R kk e x0 K=>by
 simp only[tM,zzh,aC]
def X4:Env:=cc.env (fun i=>bif Nat.beq i 4 then [0,5,6,7] else []) (fun i=>bif Nat.beq i 4 then [0,2,3,4,5] else []) [] [.str]
def VD(a:ByteArray)(b:(List Int))(c d:Int):Option R:=az (ev X4 (xn R) kk (sub [1,1,1,0,1,0,0] (cd Tryz.f184))) [0,5,6,7] [0,2,3,4,5] k ⟨[tS a]::uS 4 ([.aj (.sl 5 (.int .u8)) b [[]]]::[tI c]::[tI d]::uS 44 []),nS 53 []⟩ J
def zff(a b:ByteArray)(c:Int)(d:Bool)(e:(List Int)):State:=⟨[tS a]::uS 1 ([tS b]::[tI c]::[tB d]::[.aj (.sl 5 (.int .u8)) e [[]]]::uS 46 []),nS 53 []⟩
def zfg(a:ByteArray)(b:(List Int)):State:=⟨[tS a]::uS 4 ([.aj (.sl 5 (.int .u8)) b [[]]]::uS 46 []),nS 53 []⟩
def zzi:KX R:=(zk 0 (aU X4 (xn R) kk (sub [1,1,1,1] (cd Tryz.f184)) (aS X4 Tryz.f184.results.toList none K)))
theorem amy(a:ByteArray)(b:(List Int))(c d:Int):VD R kk (k+1) J a b c d=
 RD a b c d (fun a0 a1 a2 a3 a4=>J .ret (zff a0 a1 a2 a3 a4)) (VD R kk k J) (fun a0 a1=>J (.exit 0) (zfg a0 a1)):=by kernel_rfl
theorem afF(a b:ByteArray)(c:Int)(d:Bool)(e:(List Int)):zzi R kk K .ret (zff a b c d e)=
 zzj a b c d e (fun a0 a1 a2=>K [tS a0,tI a1,tB a2] none):=by kernel_rfl
theorem afG(a:ByteArray)(b:(List Int)):zzi R kk K (.exit 0) (zfg a b)=
 VF a b (fun a0 a1 a2=>K [tS a0,tI a1,tB a2] none):=by kernel_rfl
theorem ajd{kk:Nat}(hF:kk=af)(jB:ByteArray)(t5:(List Int))(t6 t7:Int):VD R kk k J jB t5 t6 t7=(GK k jB t5 t6 t7).bind fun e=>(Sum.elim (fun(we:(ByteArray×ByteArray×Int×Bool×(List Int)))=>J .ret (zff we.1 we.2.1 we.2.2.1 we.2.2.2.1 we.2.2.2.2)) (fun(we:(ByteArray×(List Int)))=>J (.exit 0) (zfg we.1 we.2)) e):=by
 induction k generalizing jB t5 t6 t7 with
 |zero=>rfl
 |succ k ih=>
  rw[amy]
  simp only[GK,RD,ih,aC]
def Kt:ag:=xn.add 184 [.str] (cN .str im (fun _ r K=>K [tS r.1,tI r.2.1,tB r.2.2] none))
theorem o64:aP Tryz.prog Kt:=cP X4 Tryz.f184 (fun R kk x0 K=>VE x0 (VD R kk kk (zzi R kk K))) o63 (ek _ _ _ _) Tryz.func184 (by kernel_rfl) rfl (fun _ _ _ _ _ _ h=>h _ _) (fun _ _ _ _=>by kernel_rfl) fun R kk e x0 K=>by
 simp only[im,VE,zzj,VF,ajd (hF:=e),afF,afG,aC,<-e]
def IM:Env:=cc.env (fun _=>[]) (fun _=>[]) [6] [(.int .i64),.str,(.int .i64)]
def xp:ag:=Kt.add 179 [(.int .i64),.str,(.int .i64)] (lh (.int .i64) .str (.int .i64) Hf (fun _ r K=>K [.aj (.arr 8 (.int .u8)) r.1 [],tI r.2.1,tI r.2.2] none))
theorem o65:aP Tryz.prog xp:=lA IM Tryz.f179 (fun R kk x0 x1 x2 K=>XG x0 x1 x2 (fun a0 a1 a2=>K [.aj (.arr 8 (.int .u8)) a0 [],tI a1,tI a2] none)) o64 (ek _ _ _ _) Tryz.func179 (by kernel_rfl) rfl (fun _ _ _ _ _ _ h=>h _ _) (fun _ _ _ _ _ _=>by kernel_rfl) fun R kk e x0 x1 x2 K=>by
 simp only[Hf,XG,aC]
def wT:Env:=cc.env (fun i=>bif Nat.beq i 3 then [3,6,7] else []) (fun i=>bif Nat.beq i 3 then [3] else []) [] [(.arr 8 (.int .u8))]
def p9(a:Int)(b:(List Int))(c:Int):Option R:=az (ev wT (xp R) kk (sub [1,1,0,1,0,0] (cd Tryz.f180))) [3,6,7] [3] k ⟨uS 3 ([.aj (.int .u64) a []]::uS 2 ([.aj (.arr 8 (.int .u8)) b []]::[tI c]::uS 9 [])),nS 18 []⟩ J
def EC(a:Int):State:=⟨uS 3 ([.aj (.int .u64) a []]::uS 13 []),nS 18 []⟩
def zB:KX R:=(zk 0 (aU wT (xp R) kk (sub [1,1,1] (cd Tryz.f180)) (aS wT Tryz.f180.results.toList none K)))
theorem JF(a:Int)(b:(List Int))(c:Int):p9 R kk (k+1) J a b c=
 nm a b c (p9 R kk k J) (fun a0=>J (.exit 0) (EC a0)):=by kernel_rfl
theorem anp(a:Int):zB R kk K (.exit 0) (EC a)=
 uu a (fun a0=>K [.aj (.int .u64) a0 []] none):=by kernel_rfl
theorem apr{kk:Nat}(hF:kk=af)(t3:Int)(t6:(List Int))(t7:Int):p9 R kk k J t3 t6 t7=(kq k t3 t6 t7).bind fun e=>J (.exit 0) (EC e):=by
 induction k generalizing t3 t6 t7 with
 |zero=>rfl
 |succ k ih=>
  rw[JF]
  simp only[kq,nm,ih,aC]
def Ku:ag:=xp.add 180 [(.arr 8 (.int .u8))] (cN (.arr 8 (.int .u8)) Q7 (fun _ r K=>K [.aj (.int .u64) r []] none))
theorem o66:aP Tryz.prog Ku:=cP wT Tryz.f180 (fun R kk x0 K=>qa x0 (p9 R kk kk (zB R kk K))) o65 (ek _ _ _ _) Tryz.func180 (by kernel_rfl) rfl (fun _ _ _ _ _ _ h=>h _ _) (fun _ _ _ _=>by kernel_rfl) fun R kk e x0 K=>by
 simp only[Q7,qa,uu,apr (hF:=e),anp,aC,<-e]
def I9:Env:=cc.env (fun _=>[]) (fun _=>[]) [4] [(.int .u64),(.int .u64)]
def Kv:ag:=Ku.add 181 [(.int .u64),(.int .u64)] (dJ (.int .u64) (.int .u64) SX (fun _ r K=>K [.aj (.pair (.int .u64) (.pair (.int .u64) .unit)) r []] none))
theorem o67:aP Tryz.prog Kv:=dN I9 Tryz.f181 (fun R kk x0 x1 K=>Fe x0 x1 (fun a0=>K [.aj (.pair (.int .u64) (.pair (.int .u64) .unit)) a0 []] none)) o66 (ek _ _ _ _) Tryz.func181 (by kernel_rfl) rfl (fun _ _ _ _ _ _ h=>h _ _) (fun _ _ _ _ _=>by kernel_rfl) fun R kk e x0 x1 K=>by
 simp only[SX,Fe,aC]
def Z1:Env:=cc.env (fun _=>[]) (fun _=>[]) [6] [(.int .i64),.str,(.int .i64)]
def Kw:ag:=Kv.add 130 [(.int .i64),.str,(.int .i64)] (lh (.int .i64) .str (.int .i64) Q5 (fun _ r K=>K [.aj (.pair (.int .u64) (.pair (.int .u64) .unit)) r.1 [],tI r.2.1,tI r.2.2] none))
theorem o68:aP Tryz.prog Kw:=lA Z1 Tryz.f130 (fun R kk x0 x1 x2 K=>pW x0 x1 x2 (fun a0 a1 a2=>K [.aj (.pair (.int .u64) (.pair (.int .u64) .unit)) a0 [],tI a1,tI a2] none)) o67 (ek _ _ _ _) Tryz.func130 (by kernel_rfl) rfl (fun _ _ _ _ _ _ h=>h _ _) (fun _ _ _ _ _ _=>by kernel_rfl) fun R kk e x0 x1 x2 K=>by
 simp only[Q5,pW,aC]
def aoy:Env:=e0 [(.int .u64)]
def Kx:ag:=Kw.add 212 [(.int .u64)] (cN (.int .u64) tN (fun _ r K=>K [tI r] none))
theorem o69:aP Tryz.prog Kx:=cP aoy Tryz.f212 (fun R kk x0 K=>zzl x0 (fun a0=>K [tI a0] none)) o68 (ek _ _ _ _) Tryz.func212 (by kernel_rfl) rfl (fun _ _ _ _ _ _ h=>h _ _) (fun _ _ _ _=>by kernel_rfl) fun R kk e x0 K=>by
 simp only[tN,zzl,aC]
def aox:Env:=e0 [(.int .u64)]
def Ky:ag:=Kx.add 182 [(.int .u64)] (cN (.int .u64) nh (fun _ r K=>K [tI r] none))
theorem o70:aP Tryz.prog Ky:=cP aox Tryz.f182 (fun R kk x0 K=>VI x0 (fun a0=>K [tI a0] none)) o69 (ek _ _ _ _) Tryz.func182 (by kernel_rfl) rfl (fun _ _ _ _ _ _ h=>h _ _) (fun _ _ _ _=>by kernel_rfl) fun R kk e x0 K=>by
 simp only[nh,VI,aC]
def Jf:Env:=e0 [(.pair (.int .u64) (.pair (.int .u64) .unit)),(.int .i64)]
def Kz:ag:=Ky.add 131 [(.pair (.int .u64) (.pair (.int .u64) .unit)),(.int .i64)] (dJ (.pair (.int .u64) (.pair (.int .u64) .unit)) (.int .i64) Hg (fun _ r K=>K [tI r] none))
theorem o71:aP Tryz.prog Kz:=dN Jf Tryz.f131 (fun R kk x0 x1 K=>YO x0 x1 (fun a0=>K [tI a0] none)) o70 (ek _ _ _ _) Tryz.func131 (by kernel_rfl) rfl (fun _ _ _ _ _ _ h=>h _ _) (fun _ _ _ _ _=>by kernel_rfl) fun R kk e x0 x1 K=>by
 simp only[Hg,YO,aC]
def IW:Env:=e0 [(.int .i64)]
def KA:ag:=Kz.add 174 [(.int .i64)] (cN (.int .i64) Cb (fun _ r K=>K [tB r] none))
theorem o72:aP Tryz.prog KA:=cP IW Tryz.f174 (fun R kk x0 K=>Si x0 (fun a0=>K [tB a0] none)) o71 (ek _ _ _ _) Tryz.func174 (by kernel_rfl) rfl (fun _ _ _ _ _ _ h=>h _ _) (fun _ _ _ _=>by kernel_rfl) fun R kk e x0 K=>by
 simp only[Cb,Si,aC]
def aoH:Env:=e0 [(.int .i64),(.int .i64)]
def xq:ag:=KA.add 210 [(.int .i64),(.int .i64)] (dJ (.int .i64) (.int .i64) rM (fun _ r K=>K [tB r] none))
theorem o73:aP Tryz.prog xq:=dN aoH Tryz.f210 (fun R kk x0 x1 K=>RJ x0 x1 (fun a0=>K [tB a0] none)) o72 (ek _ _ _ _) Tryz.func210 (by kernel_rfl) rfl (fun _ _ _ _ _ _ h=>h _ _) (fun _ _ _ _ _=>by kernel_rfl) fun R kk e x0 x1 K=>by
 simp only[rM,RJ,aC]
def pK:Env:=cc.env (fun i=>bif Nat.beq i 5 then [4,20] else []) (fun i=>bif Nat.beq i 5 then [4] else []) [] [.str]
def YC(a:Int)(b:nu):Option R:=az (ev pK (xq R) kk (sub [1,1,1,0,1,0,0] (cd Tryz.f213))) [4,20] [4] k ⟨uS 4 ([tI a]::uS 15 ([.ptr 21 (.aF .iter .unit .unit) []]::uS 10 [])),nS 21 ((some ⟨(.aF .iter .unit .unit),b,[]⟩)::nS 10 [])⟩ J
def zpu(a:Int):State:=⟨uS 4 ([tI a]::uS 26 []),nS 32 []⟩
def Qa:KX R:=(zk 0 (aU pK (xq R) kk (sub [1,1,1,1] (cd Tryz.f213)) (aS pK Tryz.f213.results.toList none K)))
theorem apa(a:Int)(b:nu):YC R kk (k+1) J a b=
 YE a b (YC R kk k J) (fun a0=>J (.exit 0) (zpu a0)):=by kernel_rfl
theorem ajQ(a:Int):Qa R kk K (.exit 0) (zpu a)=
 Fc a (fun a0 a1=>K [tI a0,tB a1] none):=by kernel_rfl
theorem am8{kk:Nat}(hF:kk=af)(t4:Int)(Ct:nu):YC R kk k J t4 Ct=(Is k t4 Ct).bind fun e=>J (.exit 0) (zpu e):=by
 induction k generalizing t4 Ct with
 |zero=>rfl
 |succ k ih=>
  rw[apa]
  simp only[Is,YE,ih,aC]
def KB:ag:=xq.add 213 [.str] (cN .str yV (fun _ r K=>K [tI r.1,tB r.2] none))
theorem o74:aP Tryz.prog KB:=cP pK Tryz.f213 (fun R kk x0 K=>YD x0 (fun a0 a1=>K [tI a0,tB a1] none) (YC R kk kk (Qa R kk K))) o73 (ek _ _ _ _) Tryz.func213 (by kernel_rfl) rfl (fun _ _ _ _ _ _ h=>h _ _) (fun _ _ _ _=>by kernel_rfl) fun R kk e x0 K=>by
 simp only[yV,YD,Fc,am8 (hF:=e),ajQ,aC,<-e]
def aoF:Env:=e0 [(.int .i64),(.int .i64),.str,(.int .i64)]
def KC:ag:=KB.add 183 [(.int .i64),(.int .i64),.str,(.int .i64)] (Tv (.int .i64) (.int .i64) .str (.int .i64) tT (fun _ r K=>K [tI r.1,tI r.2.1,tI r.2.2] none))
theorem o75:aP Tryz.prog KC:=st4 aoF Tryz.f183 (fun R kk x0 x1 x2 x3 K=>VW x0 x1 x2 x3 (fun a0 a1 a2=>K [tI a0,tI a1,tI a2] none)) o74 (ek _ _ _ _) Tryz.func183 (by kernel_rfl) rfl (fun _ _ _ _ _ _ h=>h _ _) (fun _ _ _ _ _ _ _=>by kernel_rfl) fun R kk e x0 x1 x2 x3 K=>by
 simp only[tT,VW,aC]
def IV:Env:=e0 [(.int .i64),(.int .i64)]
def KD:ag:=KC.add 176 [(.int .i64),(.int .i64)] (dJ (.int .i64) (.int .i64) lD (fun _ r K=>K [tI r] none))
theorem o76:aP Tryz.prog KD:=dN IV Tryz.f176 (fun R kk x0 x1 K=>XU x0 x1 (fun a0=>K [tI a0] none)) o75 (ek _ _ _ _) Tryz.func176 (by kernel_rfl) rfl (fun _ _ _ _ _ _ h=>h _ _) (fun _ _ _ _ _=>by kernel_rfl) fun R kk e x0 x1 K=>by
 simp only[lD,XU,aC]
def IQ:Env:=e0 [(.int .i64),cO,.str,(.int .i64)]
def xr:ag:=KD.add 132 [(.int .i64),cO,.str,(.int .i64)] (Tv (.int .i64) cO .str (.int .i64) IP (fun _ r K=>K [tS r.1,tI r.2.1,tI r.2.2] none))
theorem o77:aP Tryz.prog xr:=st4 IQ Tryz.f132 (fun R kk x0 x1 x2 x3 K=>XL x0 x1 x2 x3 (fun a0 a1 a2=>K [tS a0,tI a1,tI a2] none)) o76 (ek _ _ _ _) Tryz.func132 (by kernel_rfl) rfl (fun _ _ _ _ _ _ h=>h _ _) (fun _ _ _ _ _ _ _=>by kernel_rfl) fun R kk e x0 x1 x2 x3 K=>by
 simp only[IP,XL,aC]
def Yo:Env:=cc.env (fun i=>bif Nat.beq i 13 then [1,2,4,5,6,10,12,13] else []) (fun i=>bif Nat.beq i 13 then [1,4,5,6,10] else []) [4,5] [aK,.str]
def WI(a:ByteArray)(b c:Int)(d:ae)(e:aw)(f:aT)(g:aw)(h:aT):Option R:=az (ev Yo (xr R) kk (sub [1,1,1,1,1,1,1,1,0,1,0,0] (cd Tryz.f90))) [1,2,4,5,6,10,12,13] [1,4,5,6,10] k ⟨uS 1 ([tS a]::[.ptr 3 aK []]::uS 1 ([.ptr 5 y8 []]::[.ptr 6 (.pair (.int .i64) (.pair (.int .i64) .unit)) []]::[.ptr 7 y8 []]::uS 3 ([tI b]::uS 1 ([.ptr 13 (.pair (.int .u64) (.pair (.int .u64) .unit)) []]::[tI c]::uS 93 [])))),nS 3 ((some ⟨aK,d,[]⟩)::nS 1 ((some ⟨y8,e,[[1]]⟩)::(some ⟨(.pair (.int .i64) (.pair (.int .i64) .unit)),f,[]⟩)::(some ⟨y8,g,[[1]]⟩)::nS 5 ((some ⟨(.pair (.int .u64) (.pair (.int .u64) .unit)),h,[]⟩)::nS 94 [])))⟩ J
def zgd(a:ByteArray)(b:Int)(c:aw)(d:aT)(e:aw):State:=⟨uS 1 ([tS a]::uS 2 ([.ptr 5 y8 []]::[.ptr 6 (.pair (.int .i64) (.pair (.int .i64) .unit)) []]::[.ptr 7 y8 []]::uS 3 ([tI b]::uS 96 []))),nS 5 ((some ⟨y8,c,[[1]]⟩)::(some ⟨(.pair (.int .i64) (.pair (.int .i64) .unit)),d,[]⟩)::(some ⟨y8,e,[]⟩)::nS 100 [])⟩
def zge(a:ByteArray)(b:Int)(c:aw)(d:aT)(e:aw):State:=⟨uS 1 ([tS a]::uS 2 ([.ptr 5 y8 []]::[.ptr 6 (.pair (.int .i64) (.pair (.int .i64) .unit)) []]::[.ptr 7 y8 []]::uS 3 ([tI b]::uS 96 []))),nS 5 ((some ⟨y8,c,[[1]]⟩)::(some ⟨(.pair (.int .i64) (.pair (.int .i64) .unit)),d,[]⟩)::(some ⟨y8,e,[[1]]⟩)::nS 100 [])⟩
def D5:KX R:=(zk 0 (aU Yo (xr R) kk (sub [1,1,1,1,1,1,1,1,1] (cd Tryz.f90)) (aS Yo Tryz.f90.results.toList none K)))
theorem amT(a:ByteArray)(b c:Int)(d:ae)(e:aw)(f:aT)(g:aw)(h:aT):WI R kk (k+1) J a b c d e f g h=
 RV a b c d e f g h (fun a0 a1 a2 a3 a4=>J .ret (zgd a0 a1 a2 a3 a4)) (WI R kk k J) (fun a0 a1 a2 a3 a4=>J (.exit 0) (zge a0 a1 a2 a3 a4)):=by kernel_rfl
theorem agc(a:ByteArray)(b:Int)(c:aw)(d:aT)(e:aw):D5 R kk K .ret (zgd a b c d e)=
 D6 a b c d e (fun a0 a1=>K [.aj y8 a0 [[1]],.aj (.pair (.int .i64) (.pair (.int .i64) .unit)) a1 []] none):=by kernel_rfl
theorem agd(a:ByteArray)(b:Int)(c:aw)(d:aT)(e:aw):D5 R kk K (.exit 0) (zge a b c d e)=
 D7 a b c d e (fun a0 a1=>K [.aj y8 a0 [[1]],.aj (.pair (.int .i64) (.pair (.int .i64) .unit)) a1 []] none):=by kernel_rfl
theorem ajy{kk:Nat}(hF:kk=af)(uy:ByteArray)(t10 t13:Int)(dD:ae)(cQ:aw)(eG:aT)(ix:aw)(Co:aT):WI R kk k J uy t10 t13 dD cQ eG ix Co=(GQ k uy t10 t13 dD cQ eG ix Co).bind fun e=>(Sum.elim (fun(we:rV)=>J .ret (zgd we.1 we.2.1 we.2.2.1 we.2.2.2.1 we.2.2.2.2)) (fun(we:rV)=>J (.exit 0) (zge we.1 we.2.1 we.2.2.1 we.2.2.2.1 we.2.2.2.2)) e):=by
 induction k generalizing uy t10 t13 dD cQ eG ix Co with
 |zero=>rfl
 |succ k ih=>
  rw[amT]
  simp only[GQ,RV,ih,aC]
def KE:ag:=xr.add 90 [aK,.str] (dJ aK .str rP (fun _ r K=>K [.aj y8 r.1 [[1]],.aj (.pair (.int .i64) (.pair (.int .i64) .unit)) r.2 []] none))
theorem o78:aP Tryz.prog KE:=dN Yo Tryz.f90 (fun R kk x0 x1 K=>WJ x0 x1 (fun a0 a1=>K [.aj y8 a0 [[1]],.aj (.pair (.int .i64) (.pair (.int .i64) .unit)) a1 []] none) (WI R kk kk (D5 R kk K))) o77 (ek _ _ _ _) Tryz.func90 (by kernel_rfl) rfl (fun _ _ _ _ _ _ h=>h _ _) (fun _ _ _ _ _=>by kernel_rfl) fun R kk e x0 x1 K=>by
 simp only[rP,WJ,D6,D7,ajy (hF:=e),agc,agd,aC,<-e]
def aoC:Env:=e0 [.str]
def xt:ag:=KE.add 117 [.str] (cN .str tR (fun _ r K=>K [tS r.1,tB r.2] none))
theorem o79:aP Tryz.prog xt:=cP aoC Tryz.f117 (fun R kk x0 K=>VT x0 (fun a0 a1=>K [tS a0,tB a1] none)) o78 (ek _ _ _ _) Tryz.func117 (by kernel_rfl) rfl (fun _ _ _ _ _ _ h=>h _ _) (fun _ _ _ _=>by kernel_rfl) fun R kk e x0 K=>by
 simp only[tR,VT,aC]
def X9:Env:=cc.env (fun i=>bif Nat.beq i 2 then [1,9,10,11] else []) (fun i=>bif Nat.beq i 2 then [4,5] else []) [] [y8,(.int .i64)]
def VL(a:Int)(b:ap)(c d:Int):Option R:=az (ev X9 (xt R) kk (sub [1,0,1,0,0] (cd Tryz.f118))) [1,9,10,11] [4,5] k ⟨uS 1 ([tI a]::uS 7 ([.aj (.sl 208 (.pair (.int .i64) (.pair .str .unit))) b []]::[tI c]::[tI d]::uS 10 [])),nS 23 []⟩ J
def zfl(a:ByteArray)(b:Bool):State:=⟨uS 4 ([tS a]::[tB b]::uS 16 []),nS 23 []⟩
def zfm:State:=⟨uS 22 [],nS 23 []⟩
def zzq:KX R:=(zk 0 (aU X9 (xt R) kk (sub [1,1] (cd Tryz.f118)) (aS X9 Tryz.f118.results.toList none K)))
theorem amC(a:Int)(b:ap)(c d:Int):VL R kk (k+1) J a b c d=
 zzr a b c d (fun a0 a1=>J .ret (zfl a0 a1)) (VL R kk k J) (J (.exit 0) (zfm)):=by kernel_rfl
theorem afK(a:ByteArray)(b:Bool):zzq R kk K .ret (zfl a b)=
 zzs a b (fun a0 a1=>K [tS a0,tB a1] none):=by kernel_rfl
theorem afL:zzq R kk K (.exit 0) (zfm)=
 zzt (fun a0 a1=>K [tS a0,tB a1] none):=by kernel_rfl
theorem aji{kk:Nat}(hF:kk=af)(fS:Int)(t9:ap)(t10 t11:Int):VL R kk k J fS t9 t10 t11=(RG k fS t9 t10 t11).bind fun e=>(Sum.elim (fun(we:kb)=>J .ret (zfl we.1 we.2)) (fun(we:Unit)=>J (.exit 0) (zfm)) e):=by
 induction k generalizing fS t9 t10 t11 with
 |zero=>rfl
 |succ k ih=>
  rw[amC]
  simp only[RG,zzr,ih,aC]
def xu:ag:=xt.add 118 [y8,(.int .i64)] (dJ y8 (.int .i64) oG (fun _ r K=>K [tS r.1,tB r.2] none))
theorem o80:aP Tryz.prog xu:=dN X9 Tryz.f118 (fun R kk x0 x1 K=>VM x0 x1 (VL R kk kk (zzq R kk K))) o79 (ek _ _ _ _) Tryz.func118 (by kernel_rfl) rfl (fun _ _ _ _ _ _ h=>h _ _) (fun _ _ _ _ _=>by kernel_rfl) fun R kk e x0 x1 K=>by
 simp only[oG,VM,zzs,zzt,aji (hF:=e),afK,afL,aC,<-e]
def Yc:Env:=cc.env (fun i=>bif Nat.beq i 3 then [1,4,5,12,13,14] else []) (fun i=>bif Nat.beq i 3 then [4,5] else []) [4] [y8,(.int .i64)]
def VQ(a:Int)(b:ap)(c d:Int)(e f:aw):Option R:=az (ev Yc (xu R) kk (sub [1,1,0,1,0,0] (cd Tryz.f164))) [1,4,5,12,13,14] [4,5] k ⟨uS 1 ([tI a]::uS 2 ([.ptr 5 y8 []]::[.ptr 6 y8 []]::uS 6 ([.aj (.sl 208 (.pair (.int .i64) (.pair .str .unit))) b []]::[tI c]::[tI d]::uS 15 []))),nS 5 ((some ⟨y8,e,[[1]]⟩)::(some ⟨y8,f,[[1]]⟩)::nS 24 [])⟩ J
def zfo(a b:aw):State:=⟨uS 4 ([.ptr 5 y8 []]::[.ptr 6 y8 []]::uS 24 []),nS 5 ((some ⟨y8,a,[[1]]⟩)::(some ⟨y8,b,[[1]]⟩)::nS 24 [])⟩
def Pm:KX R:=(zk 0 (aU Yc (xu R) kk (sub [1,1,1] (cd Tryz.f164)) (aS Yc Tryz.f164.results.toList none K)))
theorem amE(a:Int)(b:ap)(c d:Int)(e f:aw):VQ R kk (k+1) J a b c d e f=
 zzx a b c d e f (VQ R kk k J) (fun a0 a1=>J (.exit 0) (zfo a0 a1)):=by kernel_rfl
theorem afN(a b:aw):Pm R kk K (.exit 0) (zfo a b)=
 zzy a b (fun a0=>K [.aj y8 a0 [[1]]] none):=by kernel_rfl
theorem ajk{kk:Nat}(hF:kk=af)(fS:Int)(t12:ap)(t13 t14:Int)(cQ eG:aw):VQ R kk k J fS t12 t13 t14 cQ eG=(RI k fS t12 t13 t14 cQ eG).bind fun e=>J (.exit 0) (zfo e.1 e.2):=by
 induction k generalizing fS t12 t13 t14 cQ eG with
 |zero=>rfl
 |succ k ih=>
  rw[amE]
  simp only[RI,zzx,ih,aC]
def KG:ag:=xu.add 164 [y8,(.int .i64)] (dJ y8 (.int .i64) tQ (fun _ r K=>K [.aj y8 r [[1]]] none))
theorem o81:aP Tryz.prog KG:=dN Yc Tryz.f164 (fun R kk x0 x1 K=>VR x0 x1 (VQ R kk kk (Pm R kk K))) o80 (ek _ _ _ _) Tryz.func164 (by kernel_rfl) rfl (fun _ _ _ _ _ _ h=>h _ _) (fun _ _ _ _ _=>by kernel_rfl) fun R kk e x0 x1 K=>by
 simp only[tQ,VR,zzy,ajk (hF:=e),afN,aC,<-e]
def aoA:Env:=e0 [(.pair (.int .i64) (.pair .str .unit)),.unit]
def xv:ag:=KG.add 166 [(.pair (.int .i64) (.pair .str .unit)),.unit] (pz (.pair (.int .i64) (.pair .str .unit)) (.int .i64) (.int .i64) [] tP (fun _ r K=>K [tB r.1] (some ⟨(.int .i64),r.2,[]⟩)))
theorem o82:aP Tryz.prog xv:=sz aoA Tryz.f166 (fun R kk x0 x1 K=>zzw x0 x1 (fun a0 a1=>K [tB a0] (some ⟨(.int .i64),a1,[]⟩))) o81 (ek _ _ _ _) Tryz.func166 (by kernel_rfl) rfl (fun _ _ _ _ _ _ h=>h _ _) (fun _ _ _ _ _=>by kernel_rfl) fun R kk e x0 x1 K=>by
 simp only[tP,zzw,aC]
def Ym:Env:=cc.env (fun i=>bif Nat.beq i 2 then [0,1,7,8] else []) (fun i=>bif Nat.beq i 2 then [4] else []) [] [(.sl 208 (.pair (.int .i64) (.pair .str .unit))),.unit]
def Wz(a:ap)(b c d:Int):Option R:=az (ev Ym (xv R) kk (sub [1,0,1,0,0] (cd Tryz.f165))) [0,1,7,8] [4] k ⟨[.aj (.sl 208 (.pair (.int .i64) (.pair .str .unit))) a []]::[.ptr 0 (.aF (.sS 166) (.int .i64) .unit) []]::uS 5 ([tI b]::[tI c]::uS 10 []),(some ⟨(.int .i64),d,[]⟩)::nS 19 []⟩ J
def zg9(a b:Int):State:=⟨uS 4 ([tI a]::uS 14 []),(some ⟨(.int .i64),b,[]⟩)::nS 19 []⟩
def zga(a:Int):State:=⟨uS 19 [],(some ⟨(.int .i64),a,[]⟩)::nS 19 []⟩
def DX(a:Int):KX R:=(zk 0 (aU Ym (xv R) kk (sub [1,1] (cd Tryz.f165)) (aS Ym Tryz.f165.results.toList (some ⟨(.int .i64),a,[]⟩) K)))
theorem amR(a:ap)(b c d:Int):Wz R kk (k+1) J a b c d=
 DY a b c d (fun a0 a1=>J .ret (zg9 a0 a1)) (Wz R kk k J) (fun a0=>J (.exit 0) (zga a0)):=by kernel_rfl
theorem af8(a b c:Int):DX R kk K a .ret (zg9 b c)=
 DZ b c (fun a0 a1=>K [tI a0] (some ⟨(.int .i64),a1,[]⟩)):=by kernel_rfl
theorem af9(a b:Int):DX R kk K a (.exit 0) (zga b)=
 D0 b (fun a0 a1=>K [tI a0] (some ⟨(.int .i64),a1,[]⟩)):=by kernel_rfl
theorem ajw{kk:Nat}(hF:kk=af)(mw:ap)(t7 t8 recv:Int):Wz R kk k J mw t7 t8 recv=(RT k mw t7 t8 recv).bind fun e=>(Sum.elim (fun(we:(Int×Int))=>J .ret (zg9 we.1 we.2)) (fun(we:Int)=>J (.exit 0) (zga we)) e):=by
 induction k generalizing mw t7 t8 recv with
 |zero=>rfl
 |succ k ih=>
  rw[amR]
  simp only[RT,DY,ih,aC]
def KH:ag:=xv.add 165 [(.sl 208 (.pair (.int .i64) (.pair .str .unit))),.unit] (pz (.sl 208 (.pair (.int .i64) (.pair .str .unit))) (.aF (.sS 166) (.int .i64) .unit) (.int .i64) [] uf (fun _ r K=>K [tI r.1] (some ⟨(.int .i64),r.2,[]⟩)))
theorem o83:aP Tryz.prog KH:=sz Ym Tryz.f165 (fun R kk x0 x1 K=>WA x0 x1 (Wz R kk kk (DX R kk K x1))) o82 (ek _ _ _ _) Tryz.func165 (by kernel_rfl) rfl (fun _ _ _ _ _ _ h=>h _ _) (fun _ _ _ _ _=>by kernel_rfl) fun R kk e x0 x1 K=>by
 simp only[uf,WA,DZ,D0,ajw (hF:=e),af8,af9,aC,<-e]
def aoz:Env:={cc.env (fun _=>[]) (fun _=>[]) [6] [y8,(.int .i64),.str] with fz:=fun i=>bif Nat.beq i 9 then some (9,155) else none}
def oR:ag:=KH.add 119 [y8,(.int .i64),.str] (lh y8 (.int .i64) .str iS (fun _ r K=>K [.aj y8 r []] none))
theorem o84:aP Tryz.prog oR:=lA aoz Tryz.f119 (fun R kk x0 x1 x2 K=>VP x0 x1 x2 (fun a0=>K [.aj y8 a0 []] none)) o83 ((ek _ _ _ _).fz _) Tryz.func119 (by kernel_rfl) rfl (fun _ _ _ _ _ _ h=>h _ _) (fun _ _ _ _ _ _=>by kernel_rfl) fun R kk e x0 x1 x2 K=>by
 simp only[iS,VP,aC]
def G5:Env:=cc.env (fun i=>bif Nat.beq i 2 then [2,10,11,12] else bif Nat.beq i 5 then [2,6,10,11,12,17,18,19] else []) (fun i=>bif Nat.beq i 2 then [4] else bif Nat.beq i 5 then [2,4,10,11,12] else []) [] [cB,(.int .i64)]
def V8(a:(List Int))(b c:Int)(d:au):Option R:=az (ev G5 (oR R) kk (sub [1,0,1,0,0] (cd Tryz.f120))) [2,10,11,12] [4] k ⟨uS 2 ([.ptr 3 cB []]::uS 7 ([.aj (.sl 39 (.int .i64)) a [[]]]::[tI b]::[tI c]::uS 18 [])),nS 3 ((some ⟨cB,d,[]⟩)::nS 28 [])⟩ J
def zfv:State:=⟨uS 31 [],nS 32 []⟩
def zfw(a:ByteArray):State:=⟨uS 4 ([tS a]::uS 26 []),nS 32 []⟩
def z107:KX R:=(zk 0 (aU G5 (oR R) kk (sub [1,1] (cd Tryz.f120)) (aS G5 Tryz.f120.results.toList none K)))
def V9(a:Int)(b:(List Int))(c d:Int)(e:ap)(f g:Int)(h:au):Option R:=az (ev G5 (oR R) kk (sub [1,0,1,0,0,1,1,0,0,1,1,0,0] (cd Tryz.f120))) [2,6,10,11,12,17,18,19] [2,4,10,11,12] k ⟨uS 2 ([.ptr 3 cB []]::uS 3 ([tI a]::uS 3 ([.aj (.sl 39 (.int .i64)) b [[]]]::[tI c]::[tI d]::uS 4 ([.aj (.sl 107 (.pair (.int .i64) (.pair .str .unit))) e []]::[tI f]::[tI g]::uS 11 [])))),nS 3 ((some ⟨cB,h,[]⟩)::nS 28 [])⟩ J
def zfx(a:ByteArray)(b:(List Int))(c d:Int)(e:au):State:=⟨uS 2 ([.ptr 3 cB []]::uS 1 ([tS a]::uS 5 ([.aj (.sl 39 (.int .i64)) b [[]]]::[tI c]::[tI d]::uS 18 []))),nS 3 ((some ⟨cB,e,[]⟩)::nS 28 [])⟩
def zfy(a:(List Int))(b c:Int)(d:au):State:=⟨uS 2 ([.ptr 3 cB []]::uS 7 ([.aj (.sl 39 (.int .i64)) a [[]]]::[tI b]::[tI c]::uS 18 [])),nS 3 ((some ⟨cB,d,[]⟩)::nS 28 [])⟩
def DA:KX R:=(zk 2 (zk 1 (aU G5 (oR R) kk (sub [1,0,1,0,0,1,1,1] (cd Tryz.f120)) (nO (ev G5 (oR R) kk (sub [1,0,1,0,0] (cd Tryz.f120))) [2,10,11,12] [4] k J))))
theorem amJ(a:(List Int))(b c:Int)(d:au):V8 R kk (k+1) J a b c d=
 RO a b c d (V9 R kk kk (DA R kk k J)) (J (.exit 0) (zfv)):=by kernel_rfl
theorem afU:z107 R kk K (.exit 0) (zfv)=
 DB (fun a0=>K [tS a0] none):=by kernel_rfl
theorem amK(a:Int)(b:(List Int))(c d:Int)(e:ap)(f g:Int)(h:au):V9 R kk (k+1) J a b c d e f g h=
 DC a b c d e f g h (fun a0 a1 a2 a3 a4=>J .ret (zfx a0 a1 a2 a3 a4)) (V9 R kk k J) (fun a0 a1 a2 a3=>J (.exit 2) (zfy a0 a1 a2 a3)):=by kernel_rfl
theorem afW(a:ByteArray)(b:(List Int))(c d:Int)(e:au):DA R kk k J .ret (zfx a b c d e)=
 DE a b c d e (fun a0=>J .ret (zfw a0)):=by kernel_rfl
theorem afX(a:(List Int))(b c:Int)(d:au):DA R kk k J (.exit 2) (zfy a b c d)=
 Wb a b c d (V8 R kk k J):=by kernel_rfl
theorem afV(a:ByteArray):z107 R kk K .ret (zfw a)=
 DF a (fun a0=>K [tS a0] none):=by kernel_rfl
theorem ajq{kk:Nat}(hF:kk=af)(t6:Int)(t10:(List Int))(t11 t12:Int)(t17:ap)(t18 t19:Int)(dD:au):V9 R kk k J t6 t10 t11 t12 t17 t18 t19 dD=(H9 k t6 t10 t11 t12 t17 t18 t19 dD).bind fun e=>(Sum.elim (fun(we:(ByteArray×(List Int)×Int×Int×au))=>J .ret (zfx we.1 we.2.1 we.2.2.1 we.2.2.2.1 we.2.2.2.2)) (fun(we:((List Int)×Int×Int×au))=>J (.exit 2) (zfy we.1 we.2.1 we.2.2.1 we.2.2.2)) e):=by
 induction k generalizing t6 t10 t11 t12 t17 t18 t19 dD with
 |zero=>rfl
 |succ k ih=>
  rw[amK]
  simp only[H9,DC,ih,aC]
theorem ajp{kk:Nat}(hF:kk=af)(t10:(List Int))(t11 t12:Int)(dD:au):V8 R kk k J t10 t11 t12 dD=(BS k t10 t11 t12 dD).bind fun e=>(Sum.elim (fun(we:Unit)=>J (.exit 0) (zfv)) (fun(we:ByteArray)=>J .ret (zfw we)) e):=by
 induction k generalizing t10 t11 t12 dD with
 |zero=>rfl
 |succ k ih=>
  rw[amJ]
  simp only[BS,RO,DE,Wb,ih,ajq (hF:=hF),afW,afX,aC,<-hF]
def xw:ag:=oR.add 120 [cB,(.int .i64)] (dJ cB (.int .i64) tX (fun _ r K=>K [tS r] none))
theorem o85:aP Tryz.prog xw:=dN G5 Tryz.f120 (fun R kk x0 x1 K=>Wa x0 x1 (V8 R kk kk (z107 R kk K))) o84 (ek _ _ _ _) Tryz.func120 (by kernel_rfl) rfl (fun _ _ _ _ _ _ h=>h _ _) (fun _ _ _ _ _=>by kernel_rfl) fun R kk e x0 x1 K=>by
 simp only[tX,Wa,DB,DF,ajp (hF:=e),afU,afV,aC,<-e]
def Yf:Env:={{cc.env (fun i=>bif Nat.beq i 6 then [3,4,5,6,10,27,28,29] else []) (fun i=>bif Nat.beq i 6 then [3,5,6,10] else []) [6] [cB,y8,(.pair (.int .i64) (.pair (.int .i64) .unit))] with dr:=fun i=>bif Nat.beq i 6 then [11] else []} with ro:=true}
def V0(a:(List Int))(b c:Int)(d:au)(e:aw)(f:aT)(g h:aw):Option R:=az (ev Yf (xw R) kk (sub [1,1,1,1,0,1,0,0] (cd Tryz.f88))) [3,4,5,6,10,27,28,29] [3,5,6,10] k ⟨uS 3 ([.ptr 4 cB []]::[.ptr 5 y8 []]::[.ptr 6 (.pair (.int .i64) (.pair (.int .i64) .unit)) []]::[.ptr 7 y8 []]::uS 3 ([.ptr 11 y8 []]::uS 16 ([.aj (.sl 3 (.int .i64)) a []]::[tI b]::[tI c]::uS 21 []))),nS 4 ((some ⟨cB,d,[]⟩)::(some ⟨y8,e,[]⟩)::(some ⟨(.pair (.int .i64) (.pair (.int .i64) .unit)),f,[]⟩)::(some ⟨y8,g,[[1]]⟩)::nS 3 ((some ⟨y8,h,[]⟩)::nS 40 []))⟩ J
def zfq(a:au)(b:aT)(c d:aw):State:=⟨uS 3 ([.ptr 4 cB []]::uS 1 ([.ptr 6 (.pair (.int .i64) (.pair (.int .i64) .unit)) []]::[.ptr 7 y8 []]::uS 3 ([.ptr 11 y8 []]::uS 40 []))),nS 4 ((some ⟨cB,a,[]⟩)::nS 1 ((some ⟨(.pair (.int .i64) (.pair (.int .i64) .unit)),b,[]⟩)::(some ⟨y8,c,[[1]]⟩)::nS 3 ((some ⟨y8,d,[]⟩)::nS 40 [])))⟩
def Po:KX R:=(zk 0 (aU Yf (xw R) kk (sub [1,1,1,1,1] (cd Tryz.f88)) (aS Yf Tryz.f88.results.toList none K)))
theorem amG(a:(List Int))(b c:Int)(d:au)(e:aw)(f:aT)(g h:aw):V0 R kk (k+1) J a b c d e f g h=
 Dw a b c d e f g h (V0 R kk k J) (fun a0 a1 a2 a3=>J (.exit 0) (zfq a0 a1 a2 a3)):=by kernel_rfl
theorem afP(a:au)(b:aT)(c d:aw):Po R kk K (.exit 0) (zfq a b c d)=
 V2 a b c d (fun a0 a1=>K [.aj y8 a0 [],tB a1] none):=by kernel_rfl
theorem ajm{kk:Nat}(hF:kk=af)(t27:(List Int))(t28 t29:Int)(dq:au)(cQ:aw)(eG:aT)(ix Cn:aw):V0 R kk k J t27 t28 t29 dq cQ eG ix Cn=(RL k t27 t28 t29 dq cQ eG ix Cn).bind fun e=>J (.exit 0) (zfq e.1 e.2.1 e.2.2.1 e.2.2.2):=by
 induction k generalizing t27 t28 t29 dq cQ eG ix Cn with
 |zero=>rfl
 |succ k ih=>
  rw[amG]
  simp only[RL,Dw,ih,aC]
def xx:ag:=xw.add 88 [cB,y8,(.pair (.int .i64) (.pair (.int .i64) .unit))] (lh cB y8 (.pair (.int .i64) (.pair (.int .i64) .unit)) tV (fun _ r K=>K [.aj y8 r.1 [],tB r.2] none))
theorem o86:aP Tryz.prog xx:=lA Yf Tryz.f88 (fun R kk x0 x1 x2 K=>V1 x0 x1 x2 (fun a0 a1=>K [.aj y8 a0 [],tB a1] none) (V0 R kk kk (Po R kk K))) o85 (((ek _ _ _ _).dr _).ro _) Tryz.func88 (by kernel_rfl) rfl (fun _ _ _ _ _ _ h=>h _ _) (fun _ _ _ _ _ _=>by kernel_rfl) fun R kk e x0 x1 x2 K=>by
 simp only[tV,V1,V2,ajm (hF:=e),afP,aC,<-e]
def X8:Env:=cc.env (fun i=>bif Nat.beq i 9 then [2,4,9,39,40,41] else []) (fun i=>bif Nat.beq i 9 then [4] else []) [4] [aK,y8]
def VJ(a:Int)(b:ap)(c d:Int)(e:ae)(f:aT):Option R:=az (ev X8 (xx R) kk (sub [1,1,1,1,0,1,0,0] (cd Tryz.f121))) [2,4,9,39,40,41] [4] k ⟨uS 2 ([.ptr 3 aK []]::uS 1 ([.ptr 5 (.pair (.int .i64) (.pair (.int .i64) .unit)) []]::uS 4 ([tI a]::uS 29 ([.aj (.sl 208 (.pair (.int .i64) (.pair .str .unit))) b []]::[tI c]::[tI d]::uS 36 [])))),nS 3 ((some ⟨aK,e,[]⟩)::nS 1 ((some ⟨(.pair (.int .i64) (.pair (.int .i64) .unit)),f,[]⟩)::nS 73 []))⟩ J
def zfj(a:aT):State:=⟨uS 4 ([.ptr 5 (.pair (.int .i64) (.pair (.int .i64) .unit)) []]::uS 73 []),nS 5 ((some ⟨(.pair (.int .i64) (.pair (.int .i64) .unit)),a,[]⟩)::nS 73 [])⟩
def zfk(a:aT):State:=⟨uS 4 ([.ptr 5 (.pair (.int .i64) (.pair (.int .i64) .unit)) []]::uS 73 []),nS 5 ((some ⟨(.pair (.int .i64) (.pair (.int .i64) .unit)),a,[]⟩)::nS 73 [])⟩
def zzm:KX R:=(zk 0 (aU X8 (xx R) kk (sub [1,1,1,1,1] (cd Tryz.f121)) (aS X8 Tryz.f121.results.toList none K)))
theorem amB(a:Int)(b:ap)(c d:Int)(e:ae)(f:aT):VJ R kk (k+1) J a b c d e f=
 zzn a b c d e f (fun a0=>J .ret (zfj a0)) (VJ R kk k J) (fun a0=>J (.exit 0) (zfk a0)):=by kernel_rfl
theorem afI(a:aT):zzm R kk K .ret (zfj a)=
 zzo a (fun a0=>K [.aj (.pair (.int .i64) (.pair (.int .i64) .unit)) a0 []] none):=by kernel_rfl
theorem afJ(a:aT):zzm R kk K (.exit 0) (zfk a)=
 zzp a (fun a0=>K [.aj (.pair (.int .i64) (.pair (.int .i64) .unit)) a0 []] none):=by kernel_rfl
theorem ajh{kk:Nat}(hF:kk=af)(t9:Int)(t39:ap)(t40 t41:Int)(dD:ae)(cQ:aT):VJ R kk k J t9 t39 t40 t41 dD cQ=(RF k t9 t39 t40 t41 dD cQ).bind fun e=>(Sum.elim (fun(we:aT)=>J .ret (zfj we)) (fun(we:aT)=>J (.exit 0) (zfk we)) e):=by
 induction k generalizing t9 t39 t40 t41 dD cQ with
 |zero=>rfl
 |succ k ih=>
  rw[amB]
  simp only[RF,zzn,ih,aC]
def xA:ag:=xx.add 121 [aK,y8] (dJ aK y8 rJ (fun _ r K=>K [.aj (.pair (.int .i64) (.pair (.int .i64) .unit)) r []] none))
theorem o87:aP Tryz.prog xA:=dN X8 Tryz.f121 (fun R kk x0 x1 K=>VK x0 x1 (fun a0=>K [.aj (.pair (.int .i64) (.pair (.int .i64) .unit)) a0 []] none) (VJ R kk kk (zzm R kk K))) o86 (ek _ _ _ _) Tryz.func121 (by kernel_rfl) rfl (fun _ _ _ _ _ _ h=>h _ _) (fun _ _ _ _ _=>by kernel_rfl) fun R kk e x0 x1 K=>by
 simp only[rJ,VK,zzo,zzp,ajh (hF:=e),afI,afJ,aC,<-e]
def wM:Env:=cc.env (fun i=>bif Nat.beq i 7 then [0,4,5] else []) (fun i=>bif Nat.beq i 7 then [4] else []) [] [.str]
def pG(a:ByteArray)(b:(List Int))(c:Int):Option R:=az (ev wM (xA R) kk (sub [1,1,1,1,0,1,0,0] (cd Tryz.f168))) [0,4,5] [4] k ⟨[tS a]::uS 3 ([.aj (.sl 5 (.int .u8)) b [[]]]::[tI c]::uS 40 []),nS 47 []⟩ J
def DS(a:(List Int)):State:=⟨uS 4 ([.aj (.sl 5 (.int .u8)) a [[]]]::uS 41 []),nS 47 []⟩
def yT:KX R:=(zk 0 (aU wM (xA R) kk (sub [1,1,1,1,1] (cd Tryz.f168)) (aS wM Tryz.f168.results.toList none K)))
theorem I3(a:ByteArray)(b:(List Int))(c:Int):pG R kk (k+1) J a b c=
 nk a b c (pG R kk k J) (fun a0=>J (.exit 0) (DS a0)):=by kernel_rfl
theorem amP(a:(List Int)):yT R kk K (.exit 0) (DS a)=
 ue a (fun a0 a1=>K [tS a0,tB a1] none):=by kernel_rfl
theorem aoU{kk:Nat}(hF:kk=af)(jB:ByteArray)(t4:(List Int))(t5:Int):pG R kk k J jB t4 t5=(km k jB t4 t5).bind fun e=>J (.exit 0) (DS e):=by
 induction k generalizing jB t4 t5 with
 |zero=>rfl
 |succ k ih=>
  rw[I3]
  simp only[km,nk,ih,aC]
def KI:ag:=xA.add 168 [.str] (cN .str Q1 (fun _ r K=>K [tS r.1,tB r.2] none))
theorem o88:aP Tryz.prog KI:=cP wM Tryz.f168 (fun R kk x0 K=>lE x0 (fun a0 a1=>K [tS a0,tB a1] none) (fun a0 a1 a2=>pG R kk kk (yT R kk K) a0 a1 a2)) o87 (ek _ _ _ _) Tryz.func168 (by kernel_rfl) rfl (fun _ _ _ _ _ _ h=>h _ _) (fun _ _ _ _=>by kernel_rfl) fun R kk e x0 K=>by
 simp only[Q1,adM,ue,aoU (hF:=e),amP,aC,<-e]
def ao7:Env:=e0 [(.int .i64),.str]
def KJ:ag:=KI.add 124 [(.int .i64),.str] (dJ (.int .i64) .str uo (fun _ r K=>K [tS r.1,tB r.2] none))
theorem o89:aP Tryz.prog KJ:=dN ao7 Tryz.f124 (fun R kk x0 x1 K=>W5 x0 x1 (fun a0 a1=>K [tS a0,tB a1] none)) o88 (ek _ _ _ _) Tryz.func124 (by kernel_rfl) rfl (fun _ _ _ _ _ _ h=>h _ _) (fun _ _ _ _ _=>by kernel_rfl) fun R kk e x0 x1 K=>by
 simp only[uo,W5,aC]
def Tryz.jL:Go.Shelf.Ren:=⟨fun|166=>123|240=>167|276=>209|n=>n,fun|70=>196|9=>9|3=>3|75=>200|0=>0|72=>198|37=>99|4=>4|164=>280|80=>210|5=>5|20=>20|n=>n,fun n=>n⟩
theorem Tryz.yb:Go.Proofs.Lays.n166 Go.Proofs.Tryz.prog Tryz.jL:={
 mixed:=by kernel_rfl,
 f166:=Go.Proofs.Tryz.func123.trans (congrArg some (by kernel_rfl)),
 f240:=Go.Proofs.Tryz.func167.trans (congrArg some (by kernel_rfl)),
 f276:=Go.Proofs.Tryz.func209.trans (congrArg some (by kernel_rfl)),
 t0:=Go.Proofs.Tryz.underlying0,
 a0:=Go.Proofs.Tryz.isAgg0,
 z0:=Go.Proofs.Tryz.sizeOf0,
 v0:=Go.Proofs.Tryz.zeroValue0,
 t3:=Go.Proofs.Tryz.underlying3,
 a3:=Go.Proofs.Tryz.isAgg3,
 z3:=Go.Proofs.Tryz.sizeOf3,
 v3:=Go.Proofs.Tryz.zeroValue3,
 t4:=Go.Proofs.Tryz.underlying4,
 a4:=Go.Proofs.Tryz.isAgg4,
 z4:=Go.Proofs.Tryz.sizeOf4,
 v4:=Go.Proofs.Tryz.zeroValue4,
 t9:=Go.Proofs.Tryz.underlying9,
 a9:=Go.Proofs.Tryz.isAgg9,
 z9:=Go.Proofs.Tryz.sizeOf9,
 v9:=Go.Proofs.Tryz.zeroValue9,
 t20:=Go.Proofs.Tryz.underlying20,
 a20:=Go.Proofs.Tryz.isAgg20,
 z20:=Go.Proofs.Tryz.sizeOf20,
 v20:=Go.Proofs.Tryz.zeroValue20,
 t37:=Go.Proofs.Tryz.underlying99,
 a37:=Go.Proofs.Tryz.isAgg99,
 z37:=Go.Proofs.Tryz.sizeOf99,
 v37:=Go.Proofs.Tryz.zeroValue99,
 t70:=Go.Proofs.Tryz.underlying196,
 a70:=Go.Proofs.Tryz.isAgg196,
 z70:=Go.Proofs.Tryz.sizeOf196,
 v70:=Go.Proofs.Tryz.zeroValue196,
 t72:=Go.Proofs.Tryz.underlying198,
 a72:=Go.Proofs.Tryz.isAgg198,
 z72:=Go.Proofs.Tryz.sizeOf198,
 v72:=Go.Proofs.Tryz.zeroValue198,
 t75:=Go.Proofs.Tryz.underlying200,
 a75:=Go.Proofs.Tryz.isAgg200,
 z75:=Go.Proofs.Tryz.sizeOf200,
 v75:=Go.Proofs.Tryz.zeroValue200,
 t164:=Go.Proofs.Tryz.underlying280,
 a164:=Go.Proofs.Tryz.isAgg280,
 z164:=Go.Proofs.Tryz.sizeOf280,
 v164:=Go.Proofs.Tryz.zeroValue280}
theorem Tryz.uE:Go.Proofs.Builder.Extra Go.Proofs.Tryz.prog Tryz.jL:={
 sizeBuilder:=by kernel_rfl,
 liesBuilder:=by kernel_rfl,
 t5:=Go.Proofs.Tryz.underlying5,
 a5:=Go.Proofs.Tryz.isAgg5,
 z5:=Go.Proofs.Tryz.sizeOf5,
 v5:=Go.Proofs.Tryz.zeroValue5,
 infoByte:=by kernel_rfl,
 cellsByte:=by kernel_rfl,
 sizeByte:=by kernel_rfl,
 neB5:=by decide}
noncomputable abbrev z6o:Code:=Tryz.f123.body.getD .skip
theorem z63:sP Tryz.prog 123:=⟨Tryz.f123,z6o,Tryz.func123,by kernel_rfl,by kernel_rfl⟩
def KK:ag:=KJ.add 123 [] (SH 198 5)
theorem o90:aP Tryz.prog KK:=⟨o89.mix,Xm o89.nat (apB _ _),agK o89.vn z63 Tryz.yb Tryz.uE rfl rfl rfl⟩
def ao6:Env:=e0 [.str,.unit]
def xB:ag:=KK.add 122 [.str,.unit] (pz .str (.aF (.gY 198 5) .unit .unit) (.aF (.gY 198 5) .unit .unit) [[]] ko (fun _ r K=>K [] (some ⟨(.aF (.gY 198 5) .unit .unit),r,[[]]⟩)))
theorem o91:aP Tryz.prog xB:=sz ao6 Tryz.f122 (fun R kk x0 x1 K=>W4 x0 x1 (fun a0=>K [] (some ⟨(.aF (.gY 198 5) .unit .unit),a0,[[]]⟩))) o90 (ek _ _ _ _) Tryz.func122 (by kernel_rfl) rfl (fun _ _ _ _ _ _ h=>h _ _) (fun _ _ _ _ _=>by kernel_rfl) fun R kk e x0 x1 K=>by
 simp only[ko,W4,aC]
def Ya:Env:=cc.env (fun i=>bif Nat.beq i 3 then [2,3,7,8,9] else []) (fun i=>bif Nat.beq i 3 then [2,3] else []) [2] [y8]
def VN(a:ap)(b c:Int)(d e:aT):Option R:=az (ev Ya (xB R) kk (sub [1,1,0,1,0,0] (cd Tryz.f126))) [2,3,7,8,9] [2,3] k ⟨uS 2 ([.ptr 3 (.pair (.int .u64) (.pair (.int .u64) .unit)) []]::[.ptr 4 (.pair (.int .u64) (.pair (.int .u64) .unit)) []]::uS 3 ([.aj (.sl 208 (.pair (.int .i64) (.pair .str .unit))) a []]::[tI b]::[tI c]::uS 9 [])),nS 3 ((some ⟨(.pair (.int .u64) (.pair (.int .u64) .unit)),d,[]⟩)::(some ⟨(.pair (.int .u64) (.pair (.int .u64) .unit)),e,[]⟩)::nS 15 [])⟩ J
def zfn(a b:aT):State:=⟨uS 2 ([.ptr 3 (.pair (.int .u64) (.pair (.int .u64) .unit)) []]::[.ptr 4 (.pair (.int .u64) (.pair (.int .u64) .unit)) []]::uS 15 []),nS 3 ((some ⟨(.pair (.int .u64) (.pair (.int .u64) .unit)),a,[]⟩)::(some ⟨(.pair (.int .u64) (.pair (.int .u64) .unit)),b,[]⟩)::nS 15 [])⟩
def Pk:KX R:=(zk 0 (aU Ya (xB R) kk (sub [1,1,1] (cd Tryz.f126)) (aS Ya Tryz.f126.results.toList none K)))
theorem amD(a:ap)(b c:Int)(d e:aT):VN R kk (k+1) J a b c d e=
 zzu a b c d e (VN R kk k J) (fun a0 a1=>J (.exit 0) (zfn a0 a1)):=by kernel_rfl
theorem afM(a b:aT):Pk R kk K (.exit 0) (zfn a b)=
 zzv a b (fun a0=>K [.aj (.pair (.int .u64) (.pair (.int .u64) .unit)) a0 []] none):=by kernel_rfl
theorem ajj{kk:Nat}(hF:kk=af)(t7:ap)(t8 t9:Int)(dD dq:aT):VN R kk k J t7 t8 t9 dD dq=(RH k t7 t8 t9 dD dq).bind fun e=>J (.exit 0) (zfn e.1 e.2):=by
 induction k generalizing t7 t8 t9 dD dq with
 |zero=>rfl
 |succ k ih=>
  rw[amD]
  simp only[RH,zzu,ih,aC]
def KL:ag:=xB.add 126 [y8] (cN y8 tO (fun _ r K=>K [.aj (.pair (.int .u64) (.pair (.int .u64) .unit)) r []] none))
theorem o92:aP Tryz.prog KL:=cP Ya Tryz.f126 (fun R kk x0 K=>VO x0 (VN R kk kk (Pk R kk K))) o91 (ek _ _ _ _) Tryz.func126 (by kernel_rfl) rfl (fun _ _ _ _ _ _ h=>h _ _) (fun _ _ _ _=>by kernel_rfl) fun R kk e x0 K=>by
 simp only[tO,VO,zzv,ajj (hF:=e),afM,aC,<-e]
def Je:Env:=e0 [(.pair (.int .u64) (.pair (.int .u64) .unit)),(.int .i64)]
def KM:ag:=KL.add 170 [(.pair (.int .u64) (.pair (.int .u64) .unit)),(.int .i64)] (dJ (.pair (.int .u64) (.pair (.int .u64) .unit)) (.int .i64) Jd (fun _ r K=>K [tB r] none))
theorem o93:aP Tryz.prog KM:=dN Je Tryz.f170 (fun R kk x0 x1 K=>YN x0 x1 (fun a0=>K [tB a0] none)) o92 (ek _ _ _ _) Tryz.func170 (by kernel_rfl) rfl (fun _ _ _ _ _ _ h=>h _ _) (fun _ _ _ _ _=>by kernel_rfl) fun R kk e x0 x1 K=>by
 simp only[Jd,YN,aC]
def Jc:Env:=e0 [(.pair (.int .u64) (.pair (.int .u64) .unit))]
def xC:ag:=KM.add 171 [(.pair (.int .u64) (.pair (.int .u64) .unit))] (cN (.pair (.int .u64) (.pair (.int .u64) .unit)) SY (fun _ r K=>K [.aj (.int .u64) r.1 [],.aj (.int .u64) r.2 []] none))
theorem o94:aP Tryz.prog xC:=cP Jc Tryz.f171 (fun R kk x0 K=>Ff x0 (fun a0 a1=>K [.aj (.int .u64) a0 [],.aj (.int .u64) a1 []] none)) o93 (ek _ _ _ _) Tryz.func171 (by kernel_rfl) rfl (fun _ _ _ _ _ _ h=>h _ _) (fun _ _ _ _=>by kernel_rfl) fun R kk e x0 K=>by
 simp only[SY,Ff,aC]
def wU:Env:=cc.env (fun i=>bif Nat.beq i 3 then [0,2,3,5] else []) (fun i=>bif Nat.beq i 3 then [2,3] else []) [2] [(.int .u64)]
def qd(a b:Int)(c d:(List Int)):Option R:=az (ev wU (xC R) kk (sub [1,1,0,1,0,0] (cd Tryz.f172))) [0,2,3,5] [2,3] k ⟨[.aj (.int .u64) a []]::uS 1 ([.ptr 3 (.arr 8 (.int .u8)) []]::[.ptr 4 (.arr 8 (.int .u8)) []]::uS 1 ([tI b]::uS 12 [])),nS 3 ((some ⟨(.arr 8 (.int .u8)),c,[]⟩)::(some ⟨(.arr 8 (.int .u8)),d,[]⟩)::nS 14 [])⟩ J
def ED(a b:(List Int)):State:=⟨uS 2 ([.ptr 3 (.arr 8 (.int .u8)) []]::[.ptr 4 (.arr 8 (.int .u8)) []]::uS 14 []),nS 3 ((some ⟨(.arr 8 (.int .u8)),a,[]⟩)::(some ⟨(.arr 8 (.int .u8)),b,[]⟩)::nS 14 [])⟩
def zL:KX R:=(zk 0 (aU wU (xC R) kk (sub [1,1,1] (cd Tryz.f172)) (aS wU Tryz.f172.results.toList none K)))
theorem JN(a b:Int)(c d:(List Int)):qd R kk (k+1) J a b c d=
 nq a b c d (qd R kk k J) (fun a0 a1=>J (.exit 0) (ED a0 a1)):=by kernel_rfl
theorem ant(a b:(List Int)):zL R kk K (.exit 0) (ED a b)=
 qh a b (fun a0=>K [.aj (.arr 8 (.int .u8)) a0 []] none):=by kernel_rfl
theorem apu{kk:Nat}(hF:kk=af)(x_0 t5:Int)(dD dq:(List Int)):qd R kk k J x_0 t5 dD dq=(iT k x_0 t5 dD dq).bind fun e=>J (.exit 0) (ED e.1 e.2):=by
 induction k generalizing x_0 t5 dD dq with
 |zero=>rfl
 |succ k ih=>
  rw[JN]
  simp only[iT,nq,ih,aC]
def xD:ag:=xC.add 172 [(.int .u64)] (cN (.int .u64) Q8 (fun _ r K=>K [.aj (.arr 8 (.int .u8)) r []] none))
theorem o95:aP Tryz.prog xD:=cP wU Tryz.f172 (fun R kk x0 K=>qg x0 (qd R kk kk (zL R kk K))) o94 (ek _ _ _ _) Tryz.func172 (by kernel_rfl) rfl (fun _ _ _ _ _ _ h=>h _ _) (fun _ _ _ _=>by kernel_rfl) fun R kk e x0 K=>by
 simp only[Q8,qg,qh,apu (hF:=e),ant,aC,<-e]
def X5:Env:=cc.env (fun i=>bif Nat.beq i 3 then [0,3,4] else []) (fun i=>bif Nat.beq i 3 then [3] else []) [] [.str]
def VG(a:ByteArray)(b:(List Int))(c:Int):Option R:=az (ev X5 (xD R) kk (sub [1,1,0,1,0,0] (cd Tryz.f173))) [0,3,4] [3] k ⟨[tS a]::uS 2 ([.aj (.sl 5 (.int .u8)) b [[]]]::[tI c]::uS 25 []),nS 31 []⟩ J
def zfh(a:(List Int)):State:=⟨uS 3 ([.aj (.sl 5 (.int .u8)) a [[]]]::uS 26 []),nS 31 []⟩
def Pj:KX R:=(zk 0 (aU X5 (xD R) kk (sub [1,1,1] (cd Tryz.f173)) (aS X5 Tryz.f173.results.toList none K)))
theorem amz(a:ByteArray)(b:(List Int))(c:Int):VG R kk (k+1) J a b c=
 RE a b c (VG R kk k J) (fun a0=>J (.exit 0) (zfh a0)):=by kernel_rfl
theorem afH(a:(List Int)):Pj R kk K (.exit 0) (zfh a)=
 zzk a (fun a0=>K [tS a0] none):=by kernel_rfl
theorem aje{kk:Nat}(hF:kk=af)(jB:ByteArray)(t3:(List Int))(t4:Int):VG R kk k J jB t3 t4=(GL k jB t3 t4).bind fun e=>J (.exit 0) (zfh e):=by
 induction k generalizing jB t3 t4 with
 |zero=>rfl
 |succ k ih=>
  rw[amz]
  simp only[GL,RE,ih,aC]
def KN:ag:=xD.add 173 [.str] (cN .str kj (fun _ r K=>K [tS r] none))
theorem o96:aP Tryz.prog KN:=cP X5 Tryz.f173 (fun R kk x0 K=>VH x0 (VG R kk kk (Pj R kk K))) o95 (ek _ _ _ _) Tryz.func173 (by kernel_rfl) rfl (fun _ _ _ _ _ _ h=>h _ _) (fun _ _ _ _=>by kernel_rfl) fun R kk e x0 K=>by
 simp only[kj,VH,zzk,aje (hF:=e),afH,aC,<-e]
def Z2:Env:=e0 [(.int .i64),(.pair (.int .u64) (.pair (.int .u64) .unit))]
def xE:ag:=KN.add 125 [(.int .i64),(.pair (.int .u64) (.pair (.int .u64) .unit))] (dJ (.int .i64) (.pair (.int .u64) (.pair (.int .u64) .unit)) Q6 (fun _ r K=>K [tS r.1,tI r.2] none))
theorem o97:aP Tryz.prog xE:=dN Z2 Tryz.f125 (fun R kk x0 x1 K=>pY x0 x1 (fun a0 a1=>K [tS a0,tI a1] none)) o96 (ek _ _ _ _) Tryz.func125 (by kernel_rfl) rfl (fun _ _ _ _ _ _ h=>h _ _) (fun _ _ _ _ _=>by kernel_rfl) fun R kk e x0 x1 K=>by
 simp only[Q6,pY,aC]
def pL:Env:=cc.env (fun i=>bif Nat.beq i 5 then [0,6,7,19] else []) (fun i=>bif Nat.beq i 5 then [0,6,19] else []) [] [(.int .i64),(.int .i64)]
def YG(a:Int)(b:Nat)(c:Int)(d:Nat)(e:(List Int)):Option R:=az (ev pL (xE R) kk (sub [1,1,1,0,1,0,0] (cd Tryz.f211))) [0,6,7,19] [0,6,19] k ⟨[tI a]::uS 5 ([.ptr 20 (.aF (.ju b) (.int .u8) .unit) []]::[tI c]::uS 11 ([.ptr 20 (.aF (.ju d) (.int .u8) .unit) []]::uS 19 [])),nS 20 ((some ⟨(.aF .row (.int .u8) .unit),e,[]⟩)::nS 19 [])⟩ J
def zpv(a:Int)(b c:Nat)(d:(List Int)):State:=⟨[tI a]::uS 5 ([.ptr 20 (.aF (.ju b) (.int .u8) .unit) []]::uS 12 ([.ptr 20 (.aF (.ju c) (.int .u8) .unit) []]::uS 19 [])),nS 20 ((some ⟨(.aF .row (.int .u8) .unit),d,[]⟩)::nS 19 [])⟩
def Qb:KX R:=(zk 0 (aU pL (xE R) kk (sub [1,1,1,1] (cd Tryz.f211)) (aS pL Tryz.f211.results.toList none K)))
theorem apb(a:Int)(b:Nat)(c:Int)(d:Nat)(e:(List Int)):YG R kk (k+1) J a b c d e=
 Sm a b c d e (YG R kk k J) (fun a0 a1 a2 a3=>J (.exit 0) (zpv a0 a1 a2 a3)):=by kernel_rfl
theorem ajR(a:Int)(b c:Nat)(d:(List Int)):Qb R kk K (.exit 0) (zpv a b c d)=
 YI a b c d (fun a0 a1=>K [tS a0,tB a1] none):=by kernel_rfl
theorem am9{kk:Nat}(hF:kk=af)(n_0:Int)(nt6:Nat)(t7:Int)(Da:Nat)(Cr:(List Int)):YG R kk k J n_0 nt6 t7 Da Cr=(G7 k n_0 nt6 t7 Da Cr).bind fun e=>J (.exit 0) (zpv e.1 e.2.1 e.2.2.1 e.2.2.2):=by
 induction k generalizing n_0 nt6 t7 Da Cr with
 |zero=>rfl
 |succ k ih=>
  rw[apb]
  simp only[G7,Sm,ih,aC]
def KO:ag:=xE.add 211 [(.int .i64),(.int .i64)] (dJ (.int .i64) (.int .i64) I8 (fun _ r K=>K [tS r.1,tB r.2] none))
theorem o98:aP Tryz.prog KO:=dN pL Tryz.f211 (fun R kk x0 x1 K=>YH x0 x1 (fun a0 a1=>K [tS a0,tB a1] none) (YG R kk kk (Qb R kk K))) o97 (ek _ _ _ _) Tryz.func211 (by kernel_rfl) rfl (fun _ _ _ _ _ _ h=>h _ _) (fun _ _ _ _ _=>by kernel_rfl) fun R kk e x0 x1 K=>by
 simp only[I8,YH,YI,am9 (hF:=e),ajR,aC,<-e]
def aoG:Env:=e0 [(.int .i64),(.int .i64),(.int .i64)]
def KP:ag:=KO.add 175 [(.int .i64),(.int .i64),(.int .i64)] (lh (.int .i64) (.int .i64) (.int .i64) rL (fun _ r K=>K [tS r.1,tI r.2] none))
theorem o99:aP Tryz.prog KP:=lA aoG Tryz.f175 (fun R kk x0 x1 x2 K=>VZ x0 x1 x2 (fun a0 a1=>K [tS a0,tI a1] none)) o98 (ek _ _ _ _) Tryz.func175 (by kernel_rfl) rfl (fun _ _ _ _ _ _ h=>h _ _) (fun _ _ _ _ _ _=>by kernel_rfl) fun R kk e x0 x1 x2 K=>by
 simp only[rL,VZ,aC]
def IU:Env:=e0 [(.int .i64),cO,.str]
def zN:ag:=KP.add 127 [(.int .i64),cO,.str] (lh (.int .i64) cO .str B9 (fun _ r K=>K [tS r.1,tI r.2] none))
theorem Db:aP Tryz.prog zN:=lA IU Tryz.f127 (fun R kk x0 x1 x2 K=>XP x0 x1 x2 (fun a0 a1=>K [tS a0,tI a1] none)) o99 (ek _ _ _ _) Tryz.func127 (by kernel_rfl) rfl (fun _ _ _ _ _ _ h=>h _ _) (fun _ _ _ _ _ _=>by kernel_rfl) fun R kk e x0 x1 x2 K=>by
 simp only[B9,XP,aC]
def Tryz.jM:Go.Shelf.Ren:=⟨fun|169=>128|n=>n,fun|70=>196|9=>9|0=>0|72=>198|37=>99|127=>256|3=>3|5=>5|n=>n,fun n=>n⟩
theorem Tryz.yc:Go.Proofs.Lays.n169 Go.Proofs.Tryz.prog Tryz.jM:={
 mixed:=by kernel_rfl,
 f169:=Go.Proofs.Tryz.func128.trans (congrArg some (by kernel_rfl)),
 t0:=Go.Proofs.Tryz.underlying0,
 a0:=Go.Proofs.Tryz.isAgg0,
 z0:=Go.Proofs.Tryz.sizeOf0,
 v0:=Go.Proofs.Tryz.zeroValue0,
 t3:=Go.Proofs.Tryz.underlying3,
 a3:=Go.Proofs.Tryz.isAgg3,
 z3:=Go.Proofs.Tryz.sizeOf3,
 v3:=Go.Proofs.Tryz.zeroValue3,
 t9:=Go.Proofs.Tryz.underlying9,
 a9:=Go.Proofs.Tryz.isAgg9,
 z9:=Go.Proofs.Tryz.sizeOf9,
 v9:=Go.Proofs.Tryz.zeroValue9,
 t37:=Go.Proofs.Tryz.underlying99,
 a37:=Go.Proofs.Tryz.isAgg99,
 z37:=Go.Proofs.Tryz.sizeOf99,
 v37:=Go.Proofs.Tryz.zeroValue99,
 t70:=Go.Proofs.Tryz.underlying196,
 a70:=Go.Proofs.Tryz.isAgg196,
 z70:=Go.Proofs.Tryz.sizeOf196,
 v70:=Go.Proofs.Tryz.zeroValue196,
 t72:=Go.Proofs.Tryz.underlying198,
 a72:=Go.Proofs.Tryz.isAgg198,
 z72:=Go.Proofs.Tryz.sizeOf198,
 v72:=Go.Proofs.Tryz.zeroValue198,
 t127:=Go.Proofs.Tryz.underlying256,
 a127:=Go.Proofs.Tryz.isAgg256,
 z127:=Go.Proofs.Tryz.sizeOf256,
 v127:=Go.Proofs.Tryz.zeroValue256}
theorem Tryz.uF:Go.Proofs.Builder.Extra Go.Proofs.Tryz.prog Tryz.jM:={
 sizeBuilder:=by kernel_rfl,
 liesBuilder:=by kernel_rfl,
 t5:=Go.Proofs.Tryz.underlying5,
 a5:=Go.Proofs.Tryz.isAgg5,
 z5:=Go.Proofs.Tryz.sizeOf5,
 v5:=Go.Proofs.Tryz.zeroValue5,
 infoByte:=by kernel_rfl,
 cellsByte:=by kernel_rfl,
 sizeByte:=by kernel_rfl,
 neB5:=by decide}
noncomputable abbrev za2:Code:=Tryz.f128.body.getD .skip
theorem z82:sP Tryz.prog 128:=⟨Tryz.f128,za2,Tryz.func128,by kernel_rfl,by kernel_rfl⟩
def ql:ag:=zN.add 128 [] (SG 198 5)
theorem aaM:aP Tryz.prog ql:=⟨Db.mix,Xm Db.nat (apA _ _),agJ Db.vn z82 Tryz.yc Tryz.uF rfl rfl rfl⟩
def Yw:Env:={cc.env (fun i=>bif Nat.beq i 11 then [2,5,7,8,50,51,52] else []) (fun i=>bif Nat.beq i 11 then [5,7] else []) [5] [aK,y8] with bl:=fun t=>bif Nat.beq t 198 then some 5 else none}
def W0(a:ap)(b c:Int)(d:ae)(e:aT)(f:ByteArray):Option R:=az (ev Yw (ql R) kk (sub [1,1,1,1,1,1,1,1,0,1,0,0] (cd Tryz.f89))) [2,5,7,8,50,51,52] [5,7] k ⟨uS 2 ([.ptr 3 aK []]::uS 2 ([.ptr 6 (.pair (.int .i64) (.pair (.int .i64) .unit)) []]::uS 1 ([.ptr 8 (.aF (.gY 198 5) .unit .unit) []]::[.ptr 8 (.aF (.sS 122) (.aF (.gY 198 5) .unit .unit) .unit) []]::uS 41 ([.aj (.sl 208 (.pair (.int .i64) (.pair .str .unit))) a []]::[tI b]::[tI c]::uS 25 [])))),nS 3 ((some ⟨aK,d,[]⟩)::nS 2 ((some ⟨(.pair (.int .i64) (.pair (.int .i64) .unit)),e,[]⟩)::nS 1 ((some ⟨(.aF (.gY 198 5) .unit .unit),f,[[]]⟩)::nS 70 [])))⟩ J
def zgl(a:aT)(b:ByteArray):State:=⟨uS 5 ([.ptr 6 (.pair (.int .i64) (.pair (.int .i64) .unit)) []]::uS 1 ([.ptr 8 (.aF (.gY 198 5) .unit .unit) []]::uS 70 [])),nS 6 ((some ⟨(.pair (.int .i64) (.pair (.int .i64) .unit)),a,[]⟩)::nS 1 ((some ⟨(.aF (.gY 198 5) .unit .unit),b,[[]]⟩)::nS 70 []))⟩
def Pr:KX R:=(zk 0 (aU Yw (ql R) kk (sub [1,1,1,1,1,1,1,1,1] (cd Tryz.f89)) (aS Yw Tryz.f89.results.toList none K)))
theorem amZ(a:ap)(b c:Int)(d:ae)(e:aT)(f:ByteArray):W0 R kk (k+1) J a b c d e f=
 D9 a b c d e f (W0 R kk k J) (fun a0 a1=>J (.exit 0) (zgl a0 a1)):=by kernel_rfl
theorem agj(a:aT)(b:ByteArray):Pr R kk K (.exit 0) (zgl a b)=
 Ea a b (fun a0 a1=>K [tS a0,.aj (.pair (.int .i64) (.pair (.int .i64) .unit)) a1 []] none):=by kernel_rfl
theorem ajG{kk:Nat}(hF:kk=af)(t50:ap)(t51 t52:Int)(dD:ae)(eG:aT)(mz:ByteArray):W0 R kk k J t50 t51 t52 dD eG mz=(RW k t50 t51 t52 dD eG mz).bind fun e=>J (.exit 0) (zgl e.1 e.2):=by
 induction k generalizing t50 t51 t52 dD eG mz with
 |zero=>rfl
 |succ k ih=>
  rw[amZ]
  simp only[RW,D9,ih,aC]
def zO:ag:=ql.add 89 [aK,y8] (dJ aK y8 oM (fun _ r K=>K [tS r.1,.aj (.pair (.int .i64) (.pair (.int .i64) .unit)) r.2 []] none))
theorem aaN:aP Tryz.prog zO:=dN Yw Tryz.f89 (fun R kk x0 x1 K=>W3 x0 x1 (fun a0 a1=>K [tS a0,.aj (.pair (.int .i64) (.pair (.int .i64) .unit)) a1 []] none) (W0 R kk kk (Pr R kk K))) aaM ((ek _ _ _ _).gY 198 5 (by kernel_rfl)) Tryz.func89 (by kernel_rfl) rfl (fun _ _ _ _ _ _ h=>h _ _) (fun _ _ _ _ _=>by kernel_rfl) fun R kk e x0 x1 K=>by
 simp only[oM,W3,Ea,ajG (hF:=e),agj,aC,<-e]
def aoN:Env:=e0 [y8,(.pair (.int .i64) (.pair (.int .i64) .unit)),.unit,.unit]
def qn:ag:=zO.add 87 [y8,(.pair (.int .i64) (.pair (.int .i64) .unit)),.unit,.unit] (pv y8 (.pair (.int .i64) (.pair (.int .i64) .unit)) cB bF lp (fun _ r K=>K [tI r.1,tS r.2] none))
theorem aaO:aP Tryz.prog qn:=sv aoN Tryz.f87 (fun R kk x0 x1 x2 x3 K=>Wj x0 x1 x2 x3 (fun a0 a1=>K [tI a0,tS a1] none)) aaN (ek _ _ _ _) Tryz.func87 (by kernel_rfl) rfl (fun _ _ _ _ _ _ h=>h _ _) (fun _ _ _ _ _ _ _=>by kernel_rfl) fun R kk e x0 x1 x2 x3 K=>by
 simp only[lp,Wj,aC]
def Yy:Env:=cc.env (fun i=>bif Nat.beq i 2 then [1,9,10,11] else []) (fun i=>bif Nat.beq i 2 then [4,5] else []) [] [ci,.str]
def Xj(a:ByteArray)(b:aQ)(c d:Int):Option R:=az (ev Yy (qn R) kk (sub [1,0,1,0,0] (cd Tryz.f133))) [1,9,10,11] [4,5] k ⟨uS 1 ([tS a]::uS 7 ([.aj (.sl 109 (.pair .str (.pair .str .unit))) b []]::[tI c]::[tI d]::uS 10 [])),nS 23 []⟩ J
def zgx(a:ByteArray)(b:Bool):State:=⟨uS 4 ([tS a]::[tB b]::uS 16 []),nS 23 []⟩
def zgy:State:=⟨uS 22 [],nS 23 []⟩
def Ew:KX R:=(zk 0 (aU Yy (qn R) kk (sub [1,1] (cd Tryz.f133)) (aS Yy Tryz.f133.results.toList none K)))
theorem am6(a:ByteArray)(b:aQ)(c d:Int):Xj R kk (k+1) J a b c d=
 Ey a b c d (fun a0 a1=>J .ret (zgx a0 a1)) (Xj R kk k J) (J (.exit 0) (zgy)):=by kernel_rfl
theorem agv(a:ByteArray)(b:Bool):Ew R kk K .ret (zgx a b)=
 Ez a b (fun a0 a1=>K [tS a0,tB a1] none):=by kernel_rfl
theorem agw:Ew R kk K (.exit 0) (zgy)=
 EA (fun a0 a1=>K [tS a0,tB a1] none):=by kernel_rfl
theorem ajN{kk:Nat}(hF:kk=af)(t_1:ByteArray)(t9:aQ)(t10 t11:Int):Xj R kk k J t_1 t9 t10 t11=(R3 k t_1 t9 t10 t11).bind fun e=>(Sum.elim (fun(we:kb)=>J .ret (zgx we.1 we.2)) (fun(we:Unit)=>J (.exit 0) (zgy)) e):=by
 induction k generalizing t_1 t9 t10 t11 with
 |zero=>rfl
 |succ k ih=>
  rw[am6]
  simp only[R3,Ey,ih,aC]
def qo:ag:=qn.add 133 [ci,.str] (dJ ci .str uq (fun _ r K=>K [tS r.1,tB r.2] none))
theorem aaP:aP Tryz.prog qo:=dN Yy Tryz.f133 (fun R kk x0 x1 K=>Xk x0 x1 (Xj R kk kk (Ew R kk K))) aaO (ek _ _ _ _) Tryz.func133 (by kernel_rfl) rfl (fun _ _ _ _ _ _ h=>h _ _) (fun _ _ _ _ _=>by kernel_rfl) fun R kk e x0 x1 K=>by
 simp only[uq,Xk,Ez,EA,ajN (hF:=e),agv,agw,aC,<-e]
def Yx:Env:={cc.env (fun i=>bif Nat.beq i 2 then [1,4,9,10,11] else []) (fun i=>bif Nat.beq i 2 then [4,5] else []) [4] [ci,(.int .i64)] with ro:=true}
def Xh(a:Int)(b:bS)(c d:Int)(e:aD):Option R:=az (ev Yx (qo R) kk (sub [1,0,1,0,0] (cd Tryz.f134))) [1,4,9,10,11] [4,5] k ⟨uS 1 ([tI a]::uS 2 ([.ptr 5 cG []]::uS 4 ([.aj (.sl 102 cG) b []]::[tI c]::[tI d]::uS 10 []))),nS 5 ((some ⟨cG,e,[[4]]⟩)::nS 17 [])⟩ J
def zgv(a:Bool)(b:aD):State:=⟨uS 4 ([.ptr 5 cG []]::[tB a]::uS 16 []),nS 5 ((some ⟨cG,b,[]⟩)::nS 17 [])⟩
def zgw(a:aD):State:=⟨uS 4 ([.ptr 5 cG []]::uS 17 []),nS 5 ((some ⟨cG,a,[[4]]⟩)::nS 17 [])⟩
def Er:KX R:=(zk 0 (aU Yx (qo R) kk (sub [1,1] (cd Tryz.f134)) (aS Yx Tryz.f134.results.toList none K)))
theorem am5(a:Int)(b:bS)(c d:Int)(e:aD):Xh R kk (k+1) J a b c d e=
 Es a b c d e (fun a0 a1=>J .ret (zgv a0 a1)) (Xh R kk k J) (fun a0=>J (.exit 0) (zgw a0)):=by kernel_rfl
theorem agt(a:Bool)(b:aD):Er R kk K .ret (zgv a b)=
 Et a b (fun a0 a1=>K [.aj cG a0 [],tB a1] none):=by kernel_rfl
theorem agu(a:aD):Er R kk K (.exit 0) (zgw a)=
 Eu a (fun a0 a1=>K [.aj cG a0 [],tB a1] none):=by kernel_rfl
theorem ajM{kk:Nat}(hF:kk=af)(fS:Int)(t9:bS)(t10 t11:Int)(cQ:aD):Xh R kk k J fS t9 t10 t11 cQ=(R0 k fS t9 t10 t11 cQ).bind fun e=>(Sum.elim (fun(we:(Bool×aD))=>J .ret (zgv we.1 we.2)) (fun(we:aD)=>J (.exit 0) (zgw we)) e):=by
 induction k generalizing fS t9 t10 t11 cQ with
 |zero=>rfl
 |succ k ih=>
  rw[am5]
  simp only[R0,Es,ih,aC]
def zP:ag:=qo.add 134 [ci,(.int .i64)] (dJ ci (.int .i64) oN (fun _ r K=>K [.aj cG r.1 [],tB r.2] none))
theorem Dc:aP Tryz.prog zP:=dN Yx Tryz.f134 (fun R kk x0 x1 K=>Xi x0 x1 (Xh R kk kk (Er R kk K))) aaP ((ek _ _ _ _).ro _) Tryz.func134 (by kernel_rfl) rfl (fun _ _ _ _ _ _ h=>h _ _) (fun _ _ _ _ _=>by kernel_rfl) fun R kk e x0 x1 K=>by
 simp only[oN,Xi,Et,Eu,ajM (hF:=e),agt,agu,aC,<-e]
def Tryz.gK:Go.Shelf.Ren:=⟨fun|105=>215|212=>225|99=>226|165=>227|166=>123|170=>228|169=>128|263=>236|264=>237|206=>238|240=>167|241=>239|276=>209|277=>244|n=>n,fun|9=>9|3=>3|4=>4|20=>20|0=>0|46=>154|109=>286|5=>5|72=>198|76=>201|51=>297|146=>298|53=>137|148=>250|70=>196|37=>99|75=>200|127=>256|164=>280|80=>210|n=>n,fun n=>n⟩
theorem Tryz.eM:Go.Proofs.Lays.n105 Go.Proofs.Tryz.prog Tryz.gK:={
 mixed:=by kernel_rfl,
 f99:=Go.Proofs.Tryz.func226.trans (congrArg some (by kernel_rfl)),
 f105:=Go.Proofs.Tryz.func215.trans (congrArg some (by kernel_rfl)),
 f165:=Go.Proofs.Tryz.func227.trans (congrArg some (by kernel_rfl)),
 f166:=Go.Proofs.Tryz.func123.trans (congrArg some (by kernel_rfl)),
 f169:=Go.Proofs.Tryz.func128.trans (congrArg some (by kernel_rfl)),
 f170:=Go.Proofs.Tryz.func228.trans (congrArg some (by kernel_rfl)),
 f206:=Go.Proofs.Tryz.func238.trans (congrArg some (by kernel_rfl)),
 f212:=Go.Proofs.Tryz.func225.trans (congrArg some (by kernel_rfl)),
 f240:=Go.Proofs.Tryz.func167.trans (congrArg some (by kernel_rfl)),
 f241:=Go.Proofs.Tryz.func239.trans (congrArg some (by kernel_rfl)),
 f263:=Go.Proofs.Tryz.func236.trans (congrArg some (by kernel_rfl)),
 f264:=Go.Proofs.Tryz.func237.trans (congrArg some (by kernel_rfl)),
 f276:=Go.Proofs.Tryz.func209.trans (congrArg some (by kernel_rfl)),
 f277:=Go.Proofs.Tryz.func244.trans (congrArg some (by kernel_rfl)),
 t0:=Go.Proofs.Tryz.underlying0,
 a0:=Go.Proofs.Tryz.isAgg0,
 z0:=Go.Proofs.Tryz.sizeOf0,
 v0:=Go.Proofs.Tryz.zeroValue0,
 t3:=Go.Proofs.Tryz.underlying3,
 a3:=Go.Proofs.Tryz.isAgg3,
 z3:=Go.Proofs.Tryz.sizeOf3,
 v3:=Go.Proofs.Tryz.zeroValue3,
 t4:=Go.Proofs.Tryz.underlying4,
 a4:=Go.Proofs.Tryz.isAgg4,
 z4:=Go.Proofs.Tryz.sizeOf4,
 v4:=Go.Proofs.Tryz.zeroValue4,
 t5:=Go.Proofs.Tryz.underlying5,
 a5:=Go.Proofs.Tryz.isAgg5,
 z5:=Go.Proofs.Tryz.sizeOf5,
 v5:=Go.Proofs.Tryz.zeroValue5,
 t9:=Go.Proofs.Tryz.underlying9,
 a9:=Go.Proofs.Tryz.isAgg9,
 z9:=Go.Proofs.Tryz.sizeOf9,
 v9:=Go.Proofs.Tryz.zeroValue9,
 t20:=Go.Proofs.Tryz.underlying20,
 a20:=Go.Proofs.Tryz.isAgg20,
 z20:=Go.Proofs.Tryz.sizeOf20,
 v20:=Go.Proofs.Tryz.zeroValue20,
 t37:=Go.Proofs.Tryz.underlying99,
 a37:=Go.Proofs.Tryz.isAgg99,
 z37:=Go.Proofs.Tryz.sizeOf99,
 v37:=Go.Proofs.Tryz.zeroValue99,
 t46:=Go.Proofs.Tryz.underlying154,
 a46:=Go.Proofs.Tryz.isAgg154,
 z46:=Go.Proofs.Tryz.sizeOf154,
 v46:=Go.Proofs.Tryz.zeroValue154,
 t51:=Go.Proofs.Tryz.underlying297,
 a51:=Go.Proofs.Tryz.isAgg297,
 z51:=Go.Proofs.Tryz.sizeOf297,
 v51:=Go.Proofs.Tryz.zeroValue297,
 t53:=Go.Proofs.Tryz.underlying137,
 a53:=Go.Proofs.Tryz.isAgg137,
 z53:=Go.Proofs.Tryz.sizeOf137,
 v53:=Go.Proofs.Tryz.zeroValue137,
 t70:=Go.Proofs.Tryz.underlying196,
 a70:=Go.Proofs.Tryz.isAgg196,
 z70:=Go.Proofs.Tryz.sizeOf196,
 v70:=Go.Proofs.Tryz.zeroValue196,
 t72:=Go.Proofs.Tryz.underlying198,
 a72:=Go.Proofs.Tryz.isAgg198,
 z72:=Go.Proofs.Tryz.sizeOf198,
 v72:=Go.Proofs.Tryz.zeroValue198,
 t75:=Go.Proofs.Tryz.underlying200,
 a75:=Go.Proofs.Tryz.isAgg200,
 z75:=Go.Proofs.Tryz.sizeOf200,
 v75:=Go.Proofs.Tryz.zeroValue200,
 t76:=Go.Proofs.Tryz.underlying201,
 a76:=Go.Proofs.Tryz.isAgg201,
 z76:=Go.Proofs.Tryz.sizeOf201,
 v76:=Go.Proofs.Tryz.zeroValue201,
 t109:=Go.Proofs.Tryz.underlying286,
 a109:=Go.Proofs.Tryz.isAgg286,
 z109:=Go.Proofs.Tryz.sizeOf286,
 v109:=Go.Proofs.Tryz.zeroValue286,
 t127:=Go.Proofs.Tryz.underlying256,
 a127:=Go.Proofs.Tryz.isAgg256,
 z127:=Go.Proofs.Tryz.sizeOf256,
 v127:=Go.Proofs.Tryz.zeroValue256,
 t146:=Go.Proofs.Tryz.underlying298,
 a146:=Go.Proofs.Tryz.isAgg298,
 z146:=Go.Proofs.Tryz.sizeOf298,
 v146:=Go.Proofs.Tryz.zeroValue298,
 t148:=Go.Proofs.Tryz.underlying250,
 a148:=Go.Proofs.Tryz.isAgg250,
 z148:=Go.Proofs.Tryz.sizeOf250,
 v148:=Go.Proofs.Tryz.zeroValue250,
 t164:=Go.Proofs.Tryz.underlying280,
 a164:=Go.Proofs.Tryz.isAgg280,
 z164:=Go.Proofs.Tryz.sizeOf280,
 v164:=Go.Proofs.Tryz.zeroValue280}
theorem Tryz.nA:Go.Proofs.Builder.Extra Go.Proofs.Tryz.prog Tryz.gK:={
 sizeBuilder:=by kernel_rfl,
 liesBuilder:=by kernel_rfl,
 t5:=Tryz.eM.t5,
 a5:=Tryz.eM.a5,
 z5:=Tryz.eM.z5,
 v5:=Tryz.eM.v5,
 infoByte:=by kernel_rfl,
 cellsByte:=by kernel_rfl,
 sizeByte:=by kernel_rfl,
 neB5:=by decide}
noncomputable abbrev zrp:Code:=Tryz.f215.body.getD .skip
end
end Go.Proofs.YtpjkbbihjoflnaaGreatDoor

namespace Go.Proofs.YtpjkbbihjoflnaaGreatDoor
noncomputable section
open Go Go.Ref bj
variable (R:Type) (kk k:Nat) (K:KF R) (J:KX R)
theorem zj6:sP Tryz.prog 215:=⟨Tryz.f215,zrp,Tryz.func215,by kernel_rfl,by kernel_rfl⟩
def za3:Pure:=fun R l b K=>gL b (fU .str (.int .i64) l fun x0 x1=>(strings_Repeat x0 x1).bind fun r=>K [.aj .str r []] none)
theorem zrq:za3.Nat:=fun R S l b F G K h=>Gj (zhp fun _ _=>sE fun _=>h _ _)
def qq:ag:=zP.add 215 [] za3
theorem aaQ:aP Tryz.prog qq:=⟨Dc.mix,Xm Dc.nat zrq,alb Dc.vn zj6 strings_Repeat (ze2 Tryz.eM Tryz.nA (by kernel_rfl))⟩
def Ys:Env:=cc.env (fun i=>bif Nat.beq i 1 then [0,1] else []) (fun i=>bif Nat.beq i 1 then [0] else []) [] [.str,(.int .u8)]
def WR(a:ByteArray)(b:Int):Option R:=az (ev Ys (qq R) kk (sub [1,0,0,0] (cd Tryz.f230))) [0,1] [0] k ⟨[tS a]::[tU b]::uS 21 [],nS 24 []⟩ J
def zgh(a:ByteArray):State:=⟨[tS a]::uS 22 [],nS 24 []⟩
def Pq:KX R:=(zk 0 (aU Ys (qq R) kk (sub [1,1] (cd Tryz.f230)) (aS Ys Tryz.f230.results.toList none K)))
theorem amW(a:ByteArray)(b:Int):WR R kk (k+1) J a b=
 WT a b (WR R kk k J) (fun a0=>J (.exit 0) (zgh a0)):=by kernel_rfl
theorem agf(a:ByteArray):Pq R kk K (.exit 0) (zgh a)=
 WU a (fun a0=>K [tS a0] none):=by kernel_rfl
theorem ajC{kk:Nat}(hF:kk=af)(jB:ByteArray)(Cw:Int):WR R kk k J jB Cw=(Ie k jB Cw).bind fun e=>J (.exit 0) (zgh e):=by
 induction k generalizing jB Cw with
 |zero=>rfl
 |succ k ih=>
  rw[amW]
  simp only[Ie,WT,ih,aC]
def qs:ag:=qq.add 230 [.str,(.int .u8)] (dJ .str (.int .u8) wR (fun _ r K=>K [tS r] none))
theorem aaR:aP Tryz.prog qs:=dN Ys Tryz.f230 (fun R kk x0 x1 K=>WS x0 x1 (WR R kk kk (Pq R kk K))) aaQ (ek _ _ _ _) Tryz.func230 (by kernel_rfl) rfl (fun _ _ _ _ _ _ h=>h _ _) (fun _ _ _ _ _=>by kernel_rfl) fun R kk e x0 x1 K=>by
 simp only[wR,WS,WU,ajC (hF:=e),agf,aC,<-e]
def Yr:Env:=cc.env (fun i=>bif Nat.beq i 1 then [0,1] else []) (fun i=>bif Nat.beq i 1 then [0] else []) [] [.str,(.int .u8)]
def WM(a:ByteArray)(b:Int):Option R:=az (ev Yr (qs R) kk (sub [1,0,0,0] (cd Tryz.f229))) [0,1] [0] k ⟨[tS a]::[tU b]::uS 15 [],nS 18 []⟩ J
def zgg(a:ByteArray):State:=⟨[tS a]::uS 16 [],nS 18 []⟩
def Pp:KX R:=(zk 0 (aU Yr (qs R) kk (sub [1,1] (cd Tryz.f229)) (aS Yr Tryz.f229.results.toList none K)))
theorem amV(a:ByteArray)(b:Int):WM R kk (k+1) J a b=
 WO a b (WM R kk k J) (fun a0=>J (.exit 0) (zgg a0)):=by kernel_rfl
theorem age(a:ByteArray):Pp R kk K (.exit 0) (zgg a)=
 WQ a (fun a0=>K [tS a0] none):=by kernel_rfl
theorem ajB{kk:Nat}(hF:kk=af)(jB:ByteArray)(Cw:Int):WM R kk k J jB Cw=(Ic k jB Cw).bind fun e=>J (.exit 0) (zgg e):=by
 induction k generalizing jB Cw with
 |zero=>rfl
 |succ k ih=>
  rw[amV]
  simp only[Ic,WO,ih,aC]
def zQ:ag:=qs.add 229 [.str,(.int .u8)] (dJ .str (.int .u8) wQ (fun _ r K=>K [tS r] none))
theorem aaS:aP Tryz.prog zQ:=dN Yr Tryz.f229 (fun R kk x0 x1 K=>WN x0 x1 (WM R kk kk (Pp R kk K))) aaR (ek _ _ _ _) Tryz.func229 (by kernel_rfl) rfl (fun _ _ _ _ _ _ h=>h _ _) (fun _ _ _ _ _=>by kernel_rfl) fun R kk e x0 x1 K=>by
 simp only[wQ,WN,WQ,ajB (hF:=e),age,aC,<-e]
def ao1:Env:=e0 [.str,.str]
def zR:ag:=zQ.add 216 [.str,.str] (dJ .str .str uh (fun _ r K=>K [tS r] none))
theorem aaT:aP Tryz.prog zR:=dN ao1 Tryz.f216 (fun R kk x0 x1 K=>WL x0 x1 (fun a0=>K [tS a0] none)) aaS (ek _ _ _ _) Tryz.func216 (by kernel_rfl) rfl (fun _ _ _ _ _ _ h=>h _ _) (fun _ _ _ _ _=>by kernel_rfl) fun R kk e x0 x1 K=>by
 simp only[uh,WL,aC]
def I7:Env:=e0 [.str,(.int .i64)]
def qt:ag:=zR.add 185 [.str,(.int .i64)] (dJ .str (.int .i64) I6 (fun _ r K=>K [tS r.1,tB r.2] none))
theorem aaU:aP Tryz.prog qt:=dN I7 Tryz.f185 (fun R kk x0 x1 K=>YF x0 x1 (fun a0 a1=>K [tS a0,tB a1] none)) aaT (ek _ _ _ _) Tryz.func185 (by kernel_rfl) rfl (fun _ _ _ _ _ _ h=>h _ _) (fun _ _ _ _ _=>by kernel_rfl) fun R kk e x0 x1 K=>by
 simp only[I6,YF,aC]
def pH:Env:=cc.env (fun i=>bif Nat.beq i 2 then [1,8,9,10] else []) (fun i=>bif Nat.beq i 2 then [4,5] else []) [] [(.sl 109 (.pair .str (.pair .str .unit))),.str]
def Yp(a:ByteArray)(b:aQ)(c d:Int):Option R:=az (ev pH (qt R) kk (sub [1,0,1,0,0] (cd Tryz.f186))) [1,8,9,10] [4,5] k ⟨uS 1 ([tS a]::uS 6 ([.aj (.sl 109 (.pair .str (.pair .str .unit))) b []]::[tI c]::[tI d]::uS 10 [])),nS 22 []⟩ J
def zpo(a:ByteArray)(b:Bool):State:=⟨uS 4 ([tS a]::[tB b]::uS 15 []),nS 22 []⟩
def zpp:State:=⟨uS 21 [],nS 22 []⟩
def E1:KX R:=(zk 0 (aU pH (qt R) kk (sub [1,1] (cd Tryz.f186)) (aS pH Tryz.f186.results.toList none K)))
theorem ao0(a:ByteArray)(b:aQ)(c d:Int):Yp R kk (k+1) J a b c d=
 E2 a b c d (fun a0 a1=>J .ret (zpo a0 a1)) (Yp R kk k J) (J (.exit 0) (zpp)):=by kernel_rfl
theorem ajz(a:ByteArray)(b:Bool):E1 R kk K .ret (zpo a b)=
 E3 a b (fun a0 a1=>K [tS a0,tB a1] none):=by kernel_rfl
theorem ajA:E1 R kk K (.exit 0) (zpp)=
 E4 (fun a0 a1=>K [tS a0,tB a1] none):=by kernel_rfl
theorem amU{kk:Nat}(hF:kk=af)(pr:ByteArray)(t8:aQ)(t9 t10:Int):Yp R kk k J pr t8 t9 t10=(Sk k pr t8 t9 t10).bind fun e=>(Sum.elim (fun(we:kb)=>J .ret (zpo we.1 we.2)) (fun(we:Unit)=>J (.exit 0) (zpp)) e):=by
 induction k generalizing pr t8 t9 t10 with
 |zero=>rfl
 |succ k ih=>
  rw[ao0]
  simp only[Sk,E2,ih,aC]
def zS:ag:=qt.add 186 [(.sl 109 (.pair .str (.pair .str .unit))),.str] (dJ (.sl 109 (.pair .str (.pair .str .unit))) .str I4 (fun _ r K=>K [tS r.1,tB r.2] none))
theorem aaV:aP Tryz.prog zS:=dN pH Tryz.f186 (fun R kk x0 x1 K=>Yq x0 x1 (Yp R kk kk (E1 R kk K))) aaU (ek _ _ _ _) Tryz.func186 (by kernel_rfl) rfl (fun _ _ _ _ _ _ h=>h _ _) (fun _ _ _ _ _=>by kernel_rfl) fun R kk e x0 x1 K=>by
 simp only[I4,Yq,E3,E4,amU (hF:=e),ajz,ajA,aC,<-e]
def aoO:Env:=cc.env (fun _=>[]) (fun _=>[]) [6] [cG,aK,.str]
def lI:ag:=zS.add 135 [cG,aK,.str] (lh cG aK .str oJ (fun _ r K=>K [.aj (.pair (.int .i64) (.pair .str .unit)) r.1 [],tI r.2] none))
theorem aaW:aP Tryz.prog lI:=lA aoO Tryz.f135 (fun R kk x0 x1 x2 K=>Wk x0 x1 x2 (fun a0 a1=>K [.aj (.pair (.int .i64) (.pair .str .unit)) a0 [],tI a1] none)) aaV (ek _ _ _ _) Tryz.func135 (by kernel_rfl) rfl (fun _ _ _ _ _ _ h=>h _ _) (fun _ _ _ _ _ _=>by kernel_rfl) fun R kk e x0 x1 x2 K=>by
 simp only[oJ,Wk,aC]
def G6:Env:={{cc.env (fun i=>bif Nat.beq i 12 then [4,6,7,8,9,16,59,60,61] else bif Nat.beq i 18 then [4,6,8,9,16,76,77,78] else []) (fun i=>bif Nat.beq i 12 then [4,6,7,8,9,16] else bif Nat.beq i 18 then [8,9,16] else []) [8,9] [ci,aK,aK,y8] with dr:=fun i=>bif Nat.beq i 12 then [17] else []} with ro:=true}
def Xd(a:bS)(b c:Int)(d:aq)(e:ae)(f g:aw)(h:aT)(i:aw):Option R:=az (ev G6 (lI R) kk (sub [1,1,1,1,1,1,0,1,0,0] (cd Tryz.f91))) [4,6,7,8,9,16,59,60,61] [4,6,7,8,9,16] k ⟨uS 4 ([.ptr 5 ci []]::uS 1 ([.ptr 7 aK []]::[.ptr 8 y8 []]::[.ptr 9 y8 []]::[.ptr 10 (.pair (.int .i64) (.pair (.int .i64) .unit)) []]::uS 6 ([.ptr 17 y8 []]::uS 42 ([.aj (.sl 102 cG) a []]::[tI b]::[tI c]::uS 60 [])))),nS 5 ((some ⟨ci,d,[]⟩)::nS 1 ((some ⟨aK,e,[]⟩)::(some ⟨y8,f,[]⟩)::(some ⟨y8,g,[[1]]⟩)::(some ⟨(.pair (.int .i64) (.pair (.int .i64) .unit)),h,[]⟩)::nS 6 ((some ⟨y8,i,[]⟩)::nS 105 [])))⟩ J
def zgs(a:aq)(b:ae)(c d:aw)(e:aT)(f:aw):State:=⟨uS 4 ([.ptr 5 ci []]::uS 1 ([.ptr 7 aK []]::[.ptr 8 y8 []]::[.ptr 9 y8 []]::[.ptr 10 (.pair (.int .i64) (.pair (.int .i64) .unit)) []]::uS 6 ([.ptr 17 y8 []]::uS 105 []))),nS 5 ((some ⟨ci,a,[]⟩)::nS 1 ((some ⟨aK,b,[]⟩)::(some ⟨y8,c,[]⟩)::(some ⟨y8,d,[[1]]⟩)::(some ⟨(.pair (.int .i64) (.pair (.int .i64) .unit)),e,[]⟩)::nS 6 ((some ⟨y8,f,[]⟩)::nS 105 [])))⟩
def Ps:KX R:=(zk 0 (aU G6 (lI R) kk (sub [1,1,1,1,1,1,1] (cd Tryz.f91)) (aS G6 Tryz.f91.results.toList none K)))
def Xe(a:ap)(b c:Int)(d:aq)(e:ae)(f:aw)(g:aT)(h:aw):Option R:=az (ev G6 (lI R) kk (sub [1,1,1,1,1,1,1,0,1,0,0] (cd Tryz.f91))) [4,6,8,9,16,76,77,78] [8,9,16] k ⟨uS 4 ([.ptr 5 ci []]::uS 1 ([.ptr 7 aK []]::uS 1 ([.ptr 9 y8 []]::[.ptr 10 (.pair (.int .i64) (.pair (.int .i64) .unit)) []]::uS 6 ([.ptr 17 y8 []]::uS 59 ([.aj (.sl 208 (.pair (.int .i64) (.pair .str .unit))) a []]::[tI b]::[tI c]::uS 43 []))))),nS 5 ((some ⟨ci,d,[]⟩)::nS 1 ((some ⟨aK,e,[]⟩)::nS 1 ((some ⟨y8,f,[[1]]⟩)::(some ⟨(.pair (.int .i64) (.pair (.int .i64) .unit)),g,[]⟩)::nS 6 ((some ⟨y8,h,[]⟩)::nS 105 []))))⟩ J
def zgt(a:aw)(b:aT)(c:aw):State:=⟨uS 8 ([.ptr 9 y8 []]::[.ptr 10 (.pair (.int .i64) (.pair (.int .i64) .unit)) []]::uS 6 ([.ptr 17 y8 []]::uS 105 [])),nS 9 ((some ⟨y8,a,[[1]]⟩)::(some ⟨(.pair (.int .i64) (.pair (.int .i64) .unit)),b,[]⟩)::nS 6 ((some ⟨y8,c,[]⟩)::nS 105 []))⟩
def zgu(a:aw)(b:aT)(c:aw):State:=⟨uS 8 ([.ptr 9 y8 []]::[.ptr 10 (.pair (.int .i64) (.pair (.int .i64) .unit)) []]::uS 6 ([.ptr 17 y8 []]::uS 105 [])),nS 9 ((some ⟨y8,a,[[1]]⟩)::(some ⟨(.pair (.int .i64) (.pair (.int .i64) .unit)),b,[]⟩)::nS 6 ((some ⟨y8,c,[]⟩)::nS 105 []))⟩
def Ek:KX R:=(zk 2 (aU G6 (lI R) kk (sub [1,1,1,1,1,1,1,1] (cd Tryz.f91)) (aS G6 Tryz.f91.results.toList none K)))
theorem am3(a:bS)(b c:Int)(d:aq)(e:ae)(f g:aw)(h:aT)(i:aw):Xd R kk (k+1) J a b c d e f g h i=
 Em a b c d e f g h i (Xd R kk k J) (fun a0 a1 a2 a3 a4 a5=>J (.exit 0) (zgs a0 a1 a2 a3 a4 a5)):=by kernel_rfl
theorem agq(a:aq)(b:ae)(c d:aw)(e:aT)(f:aw):Ps R kk K (.exit 0) (zgs a b c d e f)=
 Xg a b c d e f (Xe R kk kk (Ek R kk K)):=by kernel_rfl
theorem am4(a:ap)(b c:Int)(d:aq)(e:ae)(f:aw)(g:aT)(h:aw):Xe R kk (k+1) J a b c d e f g h=
 En a b c d e f g h (fun a0 a1 a2=>J .ret (zgt a0 a1 a2)) (Xe R kk k J) (fun a0 a1 a2=>J (.exit 2) (zgu a0 a1 a2)):=by kernel_rfl
theorem agr(a:aw)(b:aT)(c:aw):Ek R kk K .ret (zgt a b c)=
 Eo a b c (fun a0 a1=>K [.aj y8 a0 [],.aj (.pair (.int .i64) (.pair (.int .i64) .unit)) a1 []] none):=by kernel_rfl
theorem ags(a:aw)(b:aT)(c:aw):Ek R kk K (.exit 2) (zgu a b c)=
 Ep a b c (fun a0 a1=>K [.aj y8 a0 [],.aj (.pair (.int .i64) (.pair (.int .i64) .unit)) a1 []] none):=by kernel_rfl
theorem ajK{kk:Nat}(hF:kk=af)(t59:bS)(t60 t61:Int)(cQ:aq)(ix:ae)(mz Cu:aw)(Cv:aT)(ku:aw):Xd R kk k J t59 t60 t61 cQ ix mz Cu Cv ku=(RY k t59 t60 t61 cQ ix mz Cu Cv ku).bind fun e=>J (.exit 0) (zgs e.1 e.2.1 e.2.2.1 e.2.2.2.1 e.2.2.2.2.1 e.2.2.2.2.2):=by
 induction k generalizing t59 t60 t61 cQ ix mz Cu Cv ku with
 |zero=>rfl
 |succ k ih=>
  rw[am3]
  simp only[RY,Em,ih,aC]
theorem ajL{kk:Nat}(hF:kk=af)(t76:ap)(t77 t78:Int)(cQ:aq)(ix:ae)(Cu:aw)(Cv:aT)(ku:aw):Xe R kk k J t76 t77 t78 cQ ix Cu Cv ku=(RZ k t76 t77 t78 cQ ix Cu Cv ku).bind fun e=>(Sum.elim (fun(we:rU)=>J .ret (zgt we.1 we.2.1 we.2.2)) (fun(we:rU)=>J (.exit 2) (zgu we.1 we.2.1 we.2.2)) e):=by
 induction k generalizing t76 t77 t78 cQ ix Cu Cv ku with
 |zero=>rfl
 |succ k ih=>
  rw[am4]
  simp only[RZ,En,ih,aC]
def zV:ag:=lI.add 91 [ci,aK,aK,y8] (Tv ci aK aK y8 rR (fun _ r K=>K [.aj y8 r.1 [],.aj (.pair (.int .i64) (.pair (.int .i64) .unit)) r.2 []] none))
theorem aaX:aP Tryz.prog zV:=st4 G6 Tryz.f91 (fun R kk x0 x1 x2 x3 K=>Xf x0 x1 x2 x3 (fun a0 a1=>K [.aj y8 a0 [],.aj (.pair (.int .i64) (.pair (.int .i64) .unit)) a1 []] none) (Xd R kk kk (Ps R kk K))) aaW (((ek _ _ _ _).dr _).ro _) Tryz.func91 (by kernel_rfl) rfl (fun _ _ _ _ _ _ h=>h _ _) (fun _ _ _ _ _ _ _=>by kernel_rfl) fun R kk e x0 x1 x2 x3 K=>by
 simp only[rR,Xf,Xg,Eo,Ep,ajK (hF:=e),ajL (hF:=e),agq,agr,ags,aC,<-e]
def aoM:Env:={e0 [bF,(.int .i64),.str] with fr:=fun i=>bif Nat.beq i 5 then [12,4] else []}
def zX:ag:=zV.add 63 [bF,(.int .i64),.str] (lh bF (.int .i64) .str ua (fun _ r K=>K [tI r.1,tS r.2] none))
theorem aaY:aP Tryz.prog zX:=lA aoM Tryz.f63 (fun R kk x0 x1 x2 K=>Wi x0 x1 x2 (fun a0 a1=>K [tI a0,tS a1] none)) aaX ((ek _ _ _ _).fr _) Tryz.func63 (by kernel_rfl) rfl (fun _ _ _ _ _ _ h=>h _ _) (fun _ _ _ _ _ _=>by kernel_rfl) fun R kk e x0 x1 x2 K=>by
 simp only[ua,Wi,aC]
def Jp:Env:=e0 [.str]
def zY:ag:=zX.add 64 [.str] (cN .str Cf (fun _ r K=>K [tS r.1,tI r.2] none))
theorem aaZ:aP Tryz.prog zY:=cP Jp Tryz.f64 (fun R kk x0 K=>YX x0 (fun a0 a1=>K [tS a0,tI a1] none)) aaY (ek _ _ _ _) Tryz.func64 (by kernel_rfl) rfl (fun _ _ _ _ _ _ h=>h _ _) (fun _ _ _ _=>by kernel_rfl) fun R kk e x0 K=>by
 simp only[Cf,YX,aC]
def Jt:Env:={cc.env (fun _=>[]) (fun _=>[]) [6] [.unit,(.int .i64),.str] with gr:=fun t=>bif Nat.beq t 87 then some (bF,y6) else none,ga:=fun t=>Nat.beq t 85}
def qu:ag:=zY.add 46 [.unit,(.int .i64),.str] (pb2 (.aF .bC bF y6) [[],[0],[0,2],[1],[1,2]] (.int .i64) .str Hk (fun _ r K=>K [.aj y9 r.1 []] (some ⟨(.aF .bC bF y6),r.2,[[],[0],[0,2],[1],[1,2]]⟩)))
theorem aa0:aP Tryz.prog qu:=sb2 Jt Tryz.f46 (fun R kk x0 x1 x2 K=>Y2 x0 x1 x2 (fun a0 a1=>K [.aj y9 a0 []] (some ⟨(.aF .bC bF y6),a1,[[],[0],[0,2],[1],[1,2]]⟩))) aaZ ((ek _ _ _ _).bC 87 85 bF y6 (by kernel_rfl) (by kernel_rfl) (by kernel_rfl) (by kernel_rfl)) Tryz.func46 (by kernel_rfl) rfl (fun _ _ _ _ _ _ h=>h _ _) (fun _ _ _ _ _ _=>by kernel_rfl) fun R kk e x0 x1 x2 K=>by
 simp only[Hk,Y2,aC]
def pQ:Env:={{cc.env (fun i=>bif Nat.beq i 6 then [0,3,5,7,27,28,29] else []) (fun i=>bif Nat.beq i 6 then [0,3,5,7] else []) [] [.unit,(.pair (.int .i64) (.pair .str .unit))] with ro:=true} with gr:=fun t=>bif Nat.beq t 87 then some (bF,y6) else none,ga:=fun t=>Nat.beq t 85}
def YY(a:bY)(b:Bool)(c:(List ByteArray))(d e:Int)(f:(ar×(Option ah×Option ah)×Int))(g:bd):Option R:=az (ev pQ (qu R) kk (sub [1,1,1,1,0,1,0,0] (cd Tryz.f21))) [0,3,5,7,27,28,29] [0,3,5,7] k ⟨[.ptr 0 (.aF .bC bF y6) []]::uS 2 ([.ptr 4 (.pair (.int .i64) (.pair .str .unit)) []]::uS 1 ([.aj (.sl 71 y9) a [[]]]::uS 1 ([tB b]::uS 19 ([.aj (.sl 9 .str) c []]::[tI d]::[tI e]::uS 24 [])))),(some ⟨(.aF .bC bF y6),f,[[],[0],[0,2],[1],[1,2]]⟩)::nS 3 ((some ⟨(.pair (.int .i64) (.pair .str .unit)),g,[]⟩)::nS 50 [])⟩ J
def zpz(a:bY)(b:Bool)(c:(ar×(Option ah×Option ah)×Int))(d:bd):State:=⟨[.ptr 0 (.aF .bC bF y6) []]::uS 2 ([.ptr 4 (.pair (.int .i64) (.pair .str .unit)) []]::uS 1 ([.aj (.sl 71 y9) a [[]]]::uS 1 ([tB b]::uS 46 []))),(some ⟨(.aF .bC bF y6),c,[[],[0],[0,2],[1],[1,2]]⟩)::nS 3 ((some ⟨(.pair (.int .i64) (.pair .str .unit)),d,[]⟩)::nS 50 [])⟩
def Qd(a:(ar×(Option ah×Option ah)×Int)):KX R:=(zk 0 (aU pQ (qu R) kk (sub [1,1,1,1,1] (cd Tryz.f21)) (aS pQ Tryz.f21.results.toList (some ⟨(.aF .bC bF y6),a,[[],[0],[0,2],[1],[1,2]]⟩) K)))
theorem apf(a:bY)(b:Bool)(c:(List ByteArray))(d e:Int)(f:(ar×(Option ah×Option ah)×Int))(g:bd):YY R kk (k+1) J a b c d e f g=
 Fl a b c d e f g (YY R kk k J) (fun a0 a1 a2 a3=>J (.exit 0) (zpz a0 a1 a2 a3)):=by kernel_rfl
theorem ajV(a:(ar×(Option ah×Option ah)×Int))(b:bY)(c:Bool)(d:(ar×(Option ah×Option ah)×Int))(e:bd):Qd R kk K a (.exit 0) (zpz b c d e)=
 Sr b c d e (fun a0 a1=>K [.aj (.sl 71 y9) a0 []] (some ⟨(.aF .bC bF y6),a1,[[],[0],[0,2],[1],[1,2]]⟩)):=by kernel_rfl
theorem ane{kk:Nat}(hF:kk=af)(t5:bY)(t7:Bool)(t27:(List ByteArray))(t28 t29:Int)(recv:(ar×(Option ah×Option ah)×Int))(dq:bd):YY R kk k J t5 t7 t27 t28 t29 recv dq=(Iu k t5 t7 t27 t28 t29 recv dq).bind fun e=>J (.exit 0) (zpz e.1 e.2.1 e.2.2.1 e.2.2.2):=by
 induction k generalizing t5 t7 t27 t28 t29 recv dq with
 |zero=>rfl
 |succ k ih=>
  rw[apf]
  simp only[Iu,Fl,ih,aC]
def qv:ag:=qu.add 21 [.unit,(.pair (.int .i64) (.pair .str .unit))] (Dg (.aF .bC bF y6) [[],[0],[0,2],[1],[1,2]] (.pair (.int .i64) (.pair .str .unit)) Hj (fun _ r K=>K [.aj (.sl 71 y9) r.1 []] (some ⟨(.aF .bC bF y6),r.2,[[],[0],[0,2],[1],[1,2]]⟩)))
theorem aa1:aP Tryz.prog qv:=Mc pQ Tryz.f21 (fun R kk x0 x1 K=>YZ x0 x1 (fun a0 a1=>K [.aj (.sl 71 y9) a0 []] (some ⟨(.aF .bC bF y6),a1,[[],[0],[0,2],[1],[1,2]]⟩)) (YY R kk kk (Qd R kk K x0))) aa0 (((ek _ _ _ _).ro _).bC 87 85 bF y6 (by kernel_rfl) (by kernel_rfl) (by kernel_rfl) (by kernel_rfl)) Tryz.func21 (by kernel_rfl) rfl (fun _ _ _ _ _ _ h=>h _ _) (fun _ _ _ _ _=>by kernel_rfl) fun R kk e x0 x1 K=>by
 simp only[Hj,YZ,Sr,ane (hF:=e),ajV,aC,<-e]
def pR:Env:=cc.env (fun i=>bif Nat.beq i 3 then [0,5,8,9,10] else []) (fun i=>bif Nat.beq i 3 then [5] else []) [] [.unit,(.sl 57 (.pair (.int .i64) (.pair .str .unit)))]
def Y0(a:bY)(b:ap)(c d:Int)(e:(ar×(Option ah×Option ah)×Int)):Option R:=az (ev pR (qv R) kk (sub [1,1,0,1,0,0] (cd Tryz.f23))) [0,5,8,9,10] [5] k ⟨[.ptr 0 (.aF .bC bF y6) []]::uS 4 ([.aj (.sl 71 y9) a [[]]]::uS 2 ([.aj (.sl 57 (.pair (.int .i64) (.pair .str .unit))) b []]::[tI c]::[tI d]::uS 10 [])),(some ⟨(.aF .bC bF y6),e,[[],[0],[0,2],[1],[1,2]]⟩)::nS 21 []⟩ J
def zq0(a:bY)(b:(ar×(Option ah×Option ah)×Int)):State:=⟨uS 5 ([.aj (.sl 71 y9) a [[]]]::uS 15 []),(some ⟨(.aF .bC bF y6),b,[[],[0],[0,2],[1],[1,2]]⟩)::nS 21 []⟩
def Qe(a:(ar×(Option ah×Option ah)×Int)):KX R:=(zk 0 (aU pR (qv R) kk (sub [1,1,1] (cd Tryz.f23)) (aS pR Tryz.f23.results.toList (some ⟨(.aF .bC bF y6),a,[[],[0],[0,2],[1],[1,2]]⟩) K)))
theorem apg(a:bY)(b:ap)(c d:Int)(e:(ar×(Option ah×Option ah)×Int)):Y0 R kk (k+1) J a b c d e=
 Fo a b c d e (Y0 R kk k J) (fun a0 a1=>J (.exit 0) (zq0 a0 a1)):=by kernel_rfl
theorem ajW(a:(ar×(Option ah×Option ah)×Int))(b:bY)(c:(ar×(Option ah×Option ah)×Int)):Qe R kk K a (.exit 0) (zq0 b c)=
 Fp b c (fun a0 a1=>K [.aj (.sl 71 y9) a0 []] (some ⟨(.aF .bC bF y6),a1,[[],[0],[0,2],[1],[1,2]]⟩)):=by kernel_rfl
theorem anf{kk:Nat}(hF:kk=af)(t5:bY)(t8:ap)(t9 t10:Int)(recv:(ar×(Option ah×Option ah)×Int)):Y0 R kk k J t5 t8 t9 t10 recv=(Ss k t5 t8 t9 t10 recv).bind fun e=>J (.exit 0) (zq0 e.1 e.2):=by
 induction k generalizing t5 t8 t9 t10 recv with
 |zero=>rfl
 |succ k ih=>
  rw[apg]
  simp only[Ss,Fo,ih,aC]
def qw:ag:=qv.add 23 [.unit,(.sl 57 (.pair (.int .i64) (.pair .str .unit)))] (Dg (.aF .bC bF y6) [[],[0],[0,2],[1],[1,2]] (.sl 57 (.pair (.int .i64) (.pair .str .unit))) yY (fun _ r K=>K [.aj (.sl 71 y9) r.1 []] (some ⟨(.aF .bC bF y6),r.2,[[],[0],[0,2],[1],[1,2]]⟩)))
theorem aa2:aP Tryz.prog qw:=Mc pR Tryz.f23 (fun R kk x0 x1 K=>Y1 x0 x1 (Y0 R kk kk (Qe R kk K x0))) aa1 (ek _ _ _ _) Tryz.func23 (by kernel_rfl) rfl (fun _ _ _ _ _ _ h=>h _ _) (fun _ _ _ _ _=>by kernel_rfl) fun R kk e x0 x1 K=>by
 simp only[yY,Y1,Fp,anf (hF:=e),ajW,aC,<-e]
def X3:Env:=cc.env (fun i=>bif Nat.beq i 4 then [0,1,5] else []) (fun i=>bif Nat.beq i 4 then [4] else []) [] [(.sl 71 y9),(.sl 71 y9)]
def VB(a b:bY)(c:Int):Option R:=az (ev X3 (qw R) kk (sub [1,1,0,1,0,0] (cd Tryz.f20))) [0,1,5] [4] k ⟨[.aj (.sl 71 y9) a []]::[.aj (.sl 71 y9) b []]::uS 3 ([tI c]::uS 20 []),nS 27 []⟩ J
def zfd(a:Bool):State:=⟨uS 4 ([tB a]::uS 21 []),nS 27 []⟩
def zfe:State:=⟨uS 26 [],nS 27 []⟩
def zzc:KX R:=(zk 0 (aU X3 (qw R) kk (sub [1,1,1] (cd Tryz.f20)) (aS X3 Tryz.f20.results.toList none K)))
theorem amx(a b:bY)(c:Int):VB R kk (k+1) J a b c=
 zze a b c (fun a0=>J .ret (zfd a0)) (VB R kk k J) (J (.exit 0) (zfe)):=by kernel_rfl
theorem afD(a:Bool):zzc R kk K .ret (zfd a)=
 zzf a (fun a0=>K [tB a0] none):=by kernel_rfl
theorem afE:zzc R kk K (.exit 0) (zfe)=
 zzg (fun a0=>K [tB a0] none):=by kernel_rfl
theorem ajc{kk:Nat}(hF:kk=af)(mw uy:bY)(t5:Int):VB R kk k J mw uy t5=(VC k mw uy t5).bind fun e=>(Sum.elim (fun(we:Bool)=>J .ret (zfd we)) (fun(we:Unit)=>J (.exit 0) (zfe)) e):=by
 induction k generalizing mw uy t5 with
 |zero=>rfl
 |succ k ih=>
  rw[amx]
  simp only[VC,zze,ih,aC]
def zZ:ag:=qw.add 20 [(.sl 71 y9),(.sl 71 y9)] (dJ (.sl 71 y9) (.sl 71 y9) wL (fun _ r K=>K [tB r] none))
theorem aa3:aP Tryz.prog zZ:=dN X3 Tryz.f20 (fun R kk x0 x1 K=>zzd x0 x1 (fun a0=>K [tB a0] none) (VB R kk kk (zzc R kk K))) aa2 (ek _ _ _ _) Tryz.func20 (by kernel_rfl) rfl (fun _ _ _ _ _ _ h=>h _ _) (fun _ _ _ _ _=>by kernel_rfl) fun R kk e x0 x1 K=>by
 simp only[wL,zzd,zzf,zzg,ajc (hF:=e),afD,afE,aC,<-e]
def Jr:Env:={e0 [.unit] with gr:=fun t=>bif Nat.beq t 87 then some (bF,y6) else none,ga:=fun t=>Nat.beq t 85}
def Aa:ag:=zZ.add 15 [.unit] (HI (.aF .bC bF y6) [[],[0],[0,2],[1],[1,2]] SZ (fun _ r K=>K [tI r.1] (some ⟨(.aF .bC bF y6),r.2,[[],[0],[0,2],[1],[1,2]]⟩)))
theorem aa4:aP Tryz.prog Aa:=TB Jr Tryz.f15 (fun R kk x0 K=>Fk x0 (fun a0 a1=>K [tI a0] (some ⟨(.aF .bC bF y6),a1,[[],[0],[0,2],[1],[1,2]]⟩))) aa3 ((ek _ _ _ _).bC 87 85 bF y6 (by kernel_rfl) (by kernel_rfl) (by kernel_rfl) (by kernel_rfl)) Tryz.func15 (by kernel_rfl) rfl (fun _ _ _ _ _ _ h=>h _ _) (fun _ _ _ _=>by kernel_rfl) fun R kk e x0 K=>by
 simp only[SZ,Fk,aC]
def Ji:Env:=e0 [.unit]
def Ab:ag:=Aa.add 44 [.unit] (HI y6 [[2]] ZY (fun _ r K=>K [tB r.1] (some ⟨y6,r.2,[[2]]⟩)))
theorem aa5:aP Tryz.prog Ab:=TB Ji Tryz.f44 (fun R kk x0 K=>Fg x0 (fun a0 a1=>K [tB a0] (some ⟨y6,a1,[[2]]⟩))) aa4 (ek _ _ _ _) Tryz.func44 (by kernel_rfl) rfl (fun _ _ _ _ _ _ h=>h _ _) (fun _ _ _ _=>by kernel_rfl) fun R kk e x0 K=>by
 simp only[ZY,Fg,aC]
def Jq:Env:={e0 [.unit,(.int .i64)] with gr:=fun t=>bif Nat.beq t 87 then some (bF,y6) else none,ga:=fun t=>Nat.beq t 85}
def Ac:ag:=Ab.add 17 [.unit,(.int .i64)] (Dg (.aF .bC bF y6) [[],[0],[0,2],[1],[1,2]] (.int .i64) Hi (fun _ r K=>K [tB r.1] (some ⟨(.aF .bC bF y6),r.2,[[],[0],[0,2],[1],[1,2]]⟩)))
theorem aa6:aP Tryz.prog Ac:=Mc Jq Tryz.f17 (fun R kk x0 x1 K=>Fj x0 x1 (fun a0 a1=>K [tB a0] (some ⟨(.aF .bC bF y6),a1,[[],[0],[0,2],[1],[1,2]]⟩))) aa5 ((ek _ _ _ _).bC 87 85 bF y6 (by kernel_rfl) (by kernel_rfl) (by kernel_rfl) (by kernel_rfl)) Tryz.func17 (by kernel_rfl) rfl (fun _ _ _ _ _ _ h=>h _ _) (fun _ _ _ _ _=>by kernel_rfl) fun R kk e x0 x1 K=>by
 simp only[Hi,Fj,aC]
def Jj:Env:=e0 [.unit]
def Ad:ag:=Ac.add 43 [.unit] (HI y6 [[2]] ZZ (fun _ r K=>K [tI r.1] (some ⟨y6,r.2,[[2]]⟩)))
theorem aa7:aP Tryz.prog Ad:=TB Jj Tryz.f43 (fun R kk x0 K=>Fi x0 (fun a0 a1=>K [tI a0] (some ⟨y6,a1,[[2]]⟩))) aa6 (ek _ _ _ _) Tryz.func43 (by kernel_rfl) rfl (fun _ _ _ _ _ _ h=>h _ _) (fun _ _ _ _=>by kernel_rfl) fun R kk e x0 K=>by
 simp only[ZZ,Fi,aC]
def Js:Env:={e0 [.unit,(.int .i64)] with gr:=fun t=>bif Nat.beq t 87 then some (bF,y6) else none,ga:=fun t=>Nat.beq t 85}
def Ae:ag:=Ad.add 16 [.unit,(.int .i64)] (Dg (.aF .bC bF y6) [[],[0],[0,2],[1],[1,2]] (.int .i64) S0 (fun _ r K=>K [tI r.1] (some ⟨(.aF .bC bF y6),r.2,[[],[0],[0,2],[1],[1,2]]⟩)))
theorem aa8:aP Tryz.prog Ae:=Mc Js Tryz.f16 (fun R kk x0 x1 K=>Fm x0 x1 (fun a0 a1=>K [tI a0] (some ⟨(.aF .bC bF y6),a1,[[],[0],[0,2],[1],[1,2]]⟩))) aa7 ((ek _ _ _ _).bC 87 85 bF y6 (by kernel_rfl) (by kernel_rfl) (by kernel_rfl) (by kernel_rfl)) Tryz.func16 (by kernel_rfl) rfl (fun _ _ _ _ _ _ h=>h _ _) (fun _ _ _ _ _=>by kernel_rfl) fun R kk e x0 x1 K=>by
 simp only[S0,Fm,aC]
def Jx:Env:=e0 []
def qx:ag:=Ae.add 10 [] (Dh Hl (fun _ r K=>K [tB r] none))
theorem aa9:aP Tryz.prog qx:=HJ Jx Tryz.f10 (fun R kk K=>z173 (fun a0=>K [tB a0] none)) aa8 (ek _ _ _ _) Tryz.func10 (by kernel_rfl) rfl (fun _ _ _ _ _ _ h=>h _ _) (fun _ _ _=>by kernel_rfl) fun R kk e K=>by
 simp only[Hl,z173,aC]
def XX:Env:=cc.env (fun i=>bif Nat.beq i 3 then [0,1,5,6] else []) (fun i=>bif Nat.beq i 3 then [1,4,5] else []) [] [(.sl 9 .str),(.int .i64)]
def Vo(a:(List ByteArray))(b c d:Int):Option R:=az (ev XX (qx R) kk (sub [1,1,0,1,0,0] (cd Tryz.f26))) [0,1,5,6] [1,4,5] k ⟨[.aj (.sl 9 .str) a []]::[tI b]::uS 3 ([tI c]::[tI d]::uS 30 []),nS 38 []⟩ J
def zf5(a:Int)(b:Bool)(c:Int):State:=⟨uS 1 ([tI a]::uS 2 ([tB b]::[tI c]::uS 31 [])),nS 38 []⟩
def zf6(a b:Int):State:=⟨uS 1 ([tI a]::uS 3 ([tI b]::uS 31 [])),nS 38 []⟩
def zz3:KX R:=(zk 0 (aU XX (qx R) kk (sub [1,1,1] (cd Tryz.f26)) (aS XX Tryz.f26.results.toList none K)))
theorem amt(a:(List ByteArray))(b c d:Int):Vo R kk (k+1) J a b c d=
 RB a b c d (fun a0 a1 a2=>J .ret (zf5 a0 a1 a2)) (Vo R kk k J) (fun a0 a1=>J (.exit 0) (zf6 a0 a1)):=by kernel_rfl
theorem afw(a:Int)(b:Bool)(c:Int):zz3 R kk K .ret (zf5 a b c)=
 Vp a b c (fun a0=>K [tB a0] none):=by kernel_rfl
theorem afx(a b:Int):zz3 R kk K (.exit 0) (zf6 a b)=
 Vq a b (fun a0=>K [tB a0] none):=by kernel_rfl
theorem ai8{kk:Nat}(hF:kk=af)(fQ:(List ByteArray))(iI t5 t6:Int):Vo R kk k J fQ iI t5 t6=(GI k fQ iI t5 t6).bind fun e=>(Sum.elim (fun(we:Hp)=>J .ret (zf5 we.1 we.2.1 we.2.2)) (fun(we:(Int×Int))=>J (.exit 0) (zf6 we.1 we.2)) e):=by
 induction k generalizing fQ iI t5 t6 with
 |zero=>rfl
 |succ k ih=>
  rw[amt]
  simp only[GI,RB,ih,aC]
def qy:ag:=qx.add 26 [(.sl 9 .str),(.int .i64)] (dJ (.sl 9 .str) (.int .i64) wK (fun _ r K=>K [tB r] none))
theorem abb:aP Tryz.prog qy:=dN XX Tryz.f26 (fun R kk x0 x1 K=>zz4 x0 x1 (Vo R kk kk (zz3 R kk K))) aa9 (ek _ _ _ _) Tryz.func26 (by kernel_rfl) rfl (fun _ _ _ _ _ _ h=>h _ _) (fun _ _ _ _ _=>by kernel_rfl) fun R kk e x0 x1 K=>by
 simp only[wK,zz4,Vp,Vq,ai8 (hF:=e),afw,afx,aC,<-e]
def XO:Env:=cc.env (fun i=>bif Nat.beq i 3 then [1,2,3,4] else []) (fun i=>bif Nat.beq i 3 then [2,3] else []) [2] [ci]
def U3(a:Int)(b c d:aq):Option R:=az (ev XO (qy R) kk (sub [1,1,0,1,0,0] (cd Tryz.f49))) [1,2,3,4] [2,3] k ⟨uS 1 ([.ptr 2 ci []]::[.ptr 3 ci []]::[.ptr 4 ci []]::[tI a]::uS 35 []),nS 2 ((some ⟨ci,b,[]⟩)::(some ⟨ci,c,[[0],[1]]⟩)::(some ⟨ci,d,[[1]]⟩)::nS 36 [])⟩ J
def zer(a b:aq):State:=⟨uS 2 ([.ptr 3 ci []]::[.ptr 4 ci []]::uS 36 []),nS 3 ((some ⟨ci,a,[[0],[1]]⟩)::(some ⟨ci,b,[[1]]⟩)::nS 36 [])⟩
def Pd:KX R:=(zk 0 (aU XO (qy R) kk (sub [1,1,1] (cd Tryz.f49)) (aS XO Tryz.f49.results.toList none K)))
theorem amk(a:Int)(b c d:aq):U3 R kk (k+1) J a b c d=
 zyb a b c d (U3 R kk k J) (fun a0 a1=>J (.exit 0) (zer a0 a1)):=by kernel_rfl
theorem afh(a b:aq):Pd R kk K (.exit 0) (zer a b)=
 zyc a b (fun a0=>K [.aj ci a0 [[1]]] none):=by kernel_rfl
theorem aiZ{kk:Nat}(hF:kk=af)(t4:Int)(cV dD dq:aq):U3 R kk k J t4 cV dD dq=(U4 k t4 cV dD dq).bind fun e=>J (.exit 0) (zer e.1 e.2):=by
 induction k generalizing t4 cV dD dq with
 |zero=>rfl
 |succ k ih=>
  rw[amk]
  simp only[U4,zyb,ih,aC]
def Af:ag:=qy.add 49 [ci] (cN ci Ca (fun _ r K=>K [.aj ci r [[1]]] none))
theorem abd:aP Tryz.prog Af:=cP XO Tryz.f49 (fun R kk x0 K=>zya x0 (U3 R kk kk (Pd R kk K))) abb (ek _ _ _ _) Tryz.func49 (by kernel_rfl) rfl (fun _ _ _ _ _ _ h=>h _ _) (fun _ _ _ _=>by kernel_rfl) fun R kk e x0 K=>by
 simp only[Ca,zya,zyc,aiZ (hF:=e),afh,aC,<-e]
def aor:Env:={cc.env (fun _=>[]) (fun _=>[]) [0] [] with sh:=[3,12]}
def qz:ag:=Af.add 30 [] (Dh tG (fun _ r K=>K [.aj bF r [[0,1,3],[0,1,2],[0,1,0,2],[0,0,3],[0,0,0,2]]] none))
theorem abe:aP Tryz.prog qz:=HJ aor Tryz.f30 (fun R kk K=>zyv (fun a0=>K [.aj bF a0 [[0,1,3],[0,1,2],[0,1,0,2],[0,0,3],[0,0,0,2]]] none)) abd ((ek _ _ _ _).sh _) Tryz.func30 (by kernel_rfl) rfl (fun _ _ _ _ _ _ h=>h _ _) (fun _ _ _=>by kernel_rfl) fun R kk e K=>by
 simp only[tG,zyv,aC]
def XQ:Env:=cc.env (fun i=>bif Nat.beq i 4 then [1,3] else []) (fun i=>bif Nat.beq i 4 then [2] else []) [] [cB]
def Vb(a:Int)(b:au):Option R:=az (ev XQ (qz R) kk (sub [1,1,0,1,0,0] (cd Tryz.f34))) [1,3] [2] k ⟨uS 1 ([.ptr 2 cB []]::uS 1 ([tI a]::uS 32 [])),nS 2 ((some ⟨cB,b,[]⟩)::nS 34 [])⟩ J
def zew(a:Bool):State:=⟨uS 2 ([tB a]::uS 33 []),nS 37 []⟩
def zex:State:=⟨uS 36 [],nS 37 []⟩
def zyh:KX R:=(zk 0 (aU XQ (qz R) kk (sub [1,1,1] (cd Tryz.f34)) (aS XQ Tryz.f34.results.toList none K)))
theorem amn(a:Int)(b:au):Vb R kk (k+1) J a b=
 zyj a b (fun a0=>J .ret (zew a0)) (Vb R kk k J) (J (.exit 0) (zex)):=by kernel_rfl
theorem afm(a:Bool):zyh R kk K .ret (zew a)=
 zyk a (fun a0=>K [tB a0] none):=by kernel_rfl
theorem afn:zyh R kk K (.exit 0) (zex)=
 zyl (fun a0=>K [tB a0] none):=by kernel_rfl
theorem ai2{kk:Nat}(hF:kk=af)(t3:Int)(cV:au):Vb R kk k J t3 cV=(Vc k t3 cV).bind fun e=>(Sum.elim (fun(we:Bool)=>J .ret (zew we)) (fun(we:Unit)=>J (.exit 0) (zex)) e):=by
 induction k generalizing t3 cV with
 |zero=>rfl
 |succ k ih=>
  rw[amn]
  simp only[Vc,zyj,ih,aC]
def qA:ag:=qz.add 34 [cB] (cN cB wH (fun _ r K=>K [tB r] none))
theorem abf:aP Tryz.prog qA:=cP XQ Tryz.f34 (fun R kk x0 K=>zyi x0 (fun a0=>K [tB a0] none) (Vb R kk kk (zyh R kk K))) abe (ek _ _ _ _) Tryz.func34 (by kernel_rfl) rfl (fun _ _ _ _ _ _ h=>h _ _) (fun _ _ _ _=>by kernel_rfl) fun R kk e x0 K=>by
 simp only[wH,zyi,zyk,zyl,ai2 (hF:=e),afm,afn,aC,<-e]
def XK:Env:=cc.env (fun i=>bif Nat.beq i 4 then [1,3] else []) (fun i=>bif Nat.beq i 4 then [2] else []) [] [cG]
def UM(a:Int)(b:aD):Option R:=az (ev XK (qA R) kk (sub [1,1,0,1,0,0] (cd Tryz.f54))) [1,3] [2] k ⟨uS 1 ([.ptr 2 cG []]::uS 1 ([tI a]::uS 35 [])),nS 2 ((some ⟨cG,b,[]⟩)::nS 37 [])⟩ J
def zef(a:Bool):State:=⟨uS 2 ([tB a]::uS 36 []),nS 40 []⟩
def zeg:State:=⟨uS 39 [],nS 40 []⟩
def zxn:KX R:=(zk 0 (aU XK (qA R) kk (sub [1,1,1] (cd Tryz.f54)) (aS XK Tryz.f54.results.toList none K)))
theorem amd(a:Int)(b:aD):UM R kk (k+1) J a b=
 zxp a b (fun a0=>J .ret (zef a0)) (UM R kk k J) (J (.exit 0) (zeg)):=by kernel_rfl
theorem ae4(a:Bool):zxn R kk K .ret (zef a)=
 zxq a (fun a0=>K [tB a0] none):=by kernel_rfl
theorem ae5:zxn R kk K (.exit 0) (zeg)=
 zxr (fun a0=>K [tB a0] none):=by kernel_rfl
theorem aiS{kk:Nat}(hF:kk=af)(t3:Int)(cV:aD):UM R kk k J t3 cV=(UN k t3 cV).bind fun e=>(Sum.elim (fun(we:Bool)=>J .ret (zef we)) (fun(we:Unit)=>J (.exit 0) (zeg)) e):=by
 induction k generalizing t3 cV with
 |zero=>rfl
 |succ k ih=>
  rw[amd]
  simp only[UN,zxp,ih,aC]
def lJ:ag:=qA.add 54 [cG] (cN cG B8 (fun _ r K=>K [tB r] none))
theorem abg:aP Tryz.prog lJ:=cP XK Tryz.f54 (fun R kk x0 K=>zxo x0 (fun a0=>K [tB a0] none) (UM R kk kk (zxn R kk K))) abf (ek _ _ _ _) Tryz.func54 (by kernel_rfl) rfl (fun _ _ _ _ _ _ h=>h _ _) (fun _ _ _ _=>by kernel_rfl) fun R kk e x0 K=>by
 simp only[B8,zxo,zxq,zxr,aiS (hF:=e),ae4,ae5,aC,<-e]
def G1:Env:=cc.env (fun i=>bif Nat.beq i 4 then [1,3] else bif Nat.beq i 9 then [1,4] else []) (fun i=>bif Nat.beq i 4 then [1,2] else bif Nat.beq i 9 then [2] else []) [] [ci]
def UX(a:Int)(b:aq):Option R:=az (ev G1 (lJ R) kk (sub [1,1,0,1,0,0] (cd Tryz.f35))) [1,3] [1,2] k ⟨uS 1 ([.ptr 2 ci []]::uS 1 ([tI a]::uS 49 [])),nS 2 ((some ⟨ci,b,[]⟩)::nS 51 [])⟩ J
def zen(a:Bool)(b:aq):State:=⟨uS 1 ([.ptr 2 ci []]::[tB a]::uS 50 []),nS 2 ((some ⟨ci,b,[]⟩)::nS 51 [])⟩
def zeo(a:aq):State:=⟨uS 1 ([.ptr 2 ci []]::uS 51 []),nS 2 ((some ⟨ci,a,[]⟩)::nS 51 [])⟩
def zy1:KX R:=(zk 0 (aU G1 (lJ R) kk (sub [1,1,1] (cd Tryz.f35)) (aS G1 Tryz.f35.results.toList none K)))
def UY(a:Int)(b:aq):Option R:=az (ev G1 (lJ R) kk (sub [1,1,1,0,1,0,0] (cd Tryz.f35))) [1,4] [2] k ⟨uS 1 ([.ptr 2 ci []]::uS 2 ([tI a]::uS 48 [])),nS 2 ((some ⟨ci,b,[]⟩)::nS 51 [])⟩ J
def zep(a:Bool):State:=⟨uS 2 ([tB a]::uS 50 []),nS 54 []⟩
def zeq:State:=⟨uS 53 [],nS 54 []⟩
def zy2:KX R:=(zk 2 (aU G1 (lJ R) kk (sub [1,1,1,1] (cd Tryz.f35)) (aS G1 Tryz.f35.results.toList none K)))
theorem ami(a:Int)(b:aq):UX R kk (k+1) J a b=
 zy4 a b (fun a0 a1=>J .ret (zen a0 a1)) (UX R kk k J) (fun a0=>J (.exit 0) (zeo a0)):=by kernel_rfl
theorem afd(a:Bool)(b:aq):zy1 R kk K .ret (zen a b)=
 zy5 a b (fun a0=>K [tB a0] none):=by kernel_rfl
theorem afe(a:aq):zy1 R kk K (.exit 0) (zeo a)=
 zy6 a (UY R kk kk (zy2 R kk K)):=by kernel_rfl
theorem amj(a:Int)(b:aq):UY R kk (k+1) J a b=
 zy7 a b (fun a0=>J .ret (zep a0)) (UY R kk k J) (J (.exit 2) (zeq)):=by kernel_rfl
theorem aff(a:Bool):zy2 R kk K .ret (zep a)=
 zy8 a (fun a0=>K [tB a0] none):=by kernel_rfl
theorem afg:zy2 R kk K (.exit 2) (zeq)=
 zy9 (fun a0=>K [tB a0] none):=by kernel_rfl
theorem aiX{kk:Nat}(hF:kk=af)(t3:Int)(cV:aq):UX R kk k J t3 cV=(UZ k t3 cV).bind fun e=>(Sum.elim (fun(we:(Bool×aq))=>J .ret (zen we.1 we.2)) (fun(we:aq)=>J (.exit 0) (zeo we)) e):=by
 induction k generalizing t3 cV with
 |zero=>rfl
 |succ k ih=>
  rw[ami]
  simp only[UZ,zy4,ih,aC]
theorem aiY{kk:Nat}(hF:kk=af)(t4:Int)(cV:aq):UY R kk k J t4 cV=(U0 k t4 cV).bind fun e=>(Sum.elim (fun(we:Bool)=>J .ret (zep we)) (fun(we:Unit)=>J (.exit 2) (zeq)) e):=by
 induction k generalizing t4 cV with
 |zero=>rfl
 |succ k ih=>
  rw[amj]
  simp only[U0,zy7,ih,aC]
def Ag:ag:=lJ.add 35 [ci] (cN ci wG (fun _ r K=>K [tB r] none))
theorem abh:aP Tryz.prog Ag:=cP G1 Tryz.f35 (fun R kk x0 K=>zy3 x0 (fun a0=>K [tB a0] none) (UX R kk kk (zy1 R kk K))) abg (ek _ _ _ _) Tryz.func35 (by kernel_rfl) rfl (fun _ _ _ _ _ _ h=>h _ _) (fun _ _ _ _=>by kernel_rfl) fun R kk e x0 K=>by
 simp only[wG,zy3,zy5,zy6,zy8,zy9,aiX (hF:=e),aiY (hF:=e),afd,afe,aff,afg,aC,<-e]
def aoq:Env:=e0 [bF]
def qB:ag:=Ag.add 11 [bF] (cN bF rG (fun _ r K=>K [tB r] none))
theorem abj:aP Tryz.prog qB:=cP aoq Tryz.f11 (fun R kk x0 K=>zyu x0 (fun a0=>K [tB a0] none)) abh (ek _ _ _ _) Tryz.func11 (by kernel_rfl) rfl (fun _ _ _ _ _ _ h=>h _ _) (fun _ _ _ _=>by kernel_rfl) fun R kk e x0 K=>by
 simp only[rG,zyu,aC]
def X2:Env:=cc.env (fun i=>bif Nat.beq i 3 then [0,1,5,6] else []) (fun i=>bif Nat.beq i 3 then [1,4,5] else []) [] [(.sl 57 (.pair (.int .i64) (.pair .str .unit))),(.int .i64)]
def Vy(a:ap)(b c d:Int):Option R:=az (ev X2 (qB R) kk (sub [1,1,0,1,0,0] (cd Tryz.f19))) [0,1,5,6] [1,4,5] k ⟨[.aj (.sl 57 (.pair (.int .i64) (.pair .str .unit))) a []]::[tI b]::uS 3 ([tI c]::[tI d]::uS 32 []),nS 40 []⟩ J
def zfb(a:Int)(b:Bool)(c:Int):State:=⟨uS 1 ([tI a]::uS 2 ([tB b]::[tI c]::uS 33 [])),nS 40 []⟩
def zfc(a b:Int):State:=⟨uS 1 ([tI a]::uS 3 ([tI b]::uS 33 [])),nS 40 []⟩
def zz8:KX R:=(zk 0 (aU X2 (qB R) kk (sub [1,1,1] (cd Tryz.f19)) (aS X2 Tryz.f19.results.toList none K)))
theorem amw(a:ap)(b c d:Int):Vy R kk (k+1) J a b c d=
 zz9 a b c d (fun a0 a1 a2=>J .ret (zfb a0 a1 a2)) (Vy R kk k J) (fun a0 a1=>J (.exit 0) (zfc a0 a1)):=by kernel_rfl
theorem afB(a:Int)(b:Bool)(c:Int):zz8 R kk K .ret (zfb a b c)=
 zza a b c (fun a0=>K [tB a0] none):=by kernel_rfl
theorem afC(a b:Int):zz8 R kk K (.exit 0) (zfc a b)=
 zzb a b (fun a0=>K [tB a0] none):=by kernel_rfl
theorem ajb{kk:Nat}(hF:kk=af)(fQ:ap)(iI t5 t6:Int):Vy R kk k J fQ iI t5 t6=(Vz k fQ iI t5 t6).bind fun e=>(Sum.elim (fun(we:Hp)=>J .ret (zfb we.1 we.2.1 we.2.2)) (fun(we:(Int×Int))=>J (.exit 0) (zfc we.1 we.2)) e):=by
 induction k generalizing fQ iI t5 t6 with
 |zero=>rfl
 |succ k ih=>
  rw[amw]
  simp only[Vz,zz9,ih,aC]
def Ah:ag:=qB.add 19 [(.sl 57 (.pair (.int .i64) (.pair .str .unit))),(.int .i64)] (dJ (.sl 57 (.pair (.int .i64) (.pair .str .unit))) (.int .i64) rI (fun _ r K=>K [tB r] none))
theorem abk:aP Tryz.prog Ah:=dN X2 Tryz.f19 (fun R kk x0 x1 K=>VA x0 x1 (Vy R kk kk (zz8 R kk K))) abj (ek _ _ _ _) Tryz.func19 (by kernel_rfl) rfl (fun _ _ _ _ _ _ h=>h _ _) (fun _ _ _ _ _=>by kernel_rfl) fun R kk e x0 x1 K=>by
 simp only[rI,VA,zza,zzb,ajb (hF:=e),afB,afC,aC,<-e]
def JK:Env:=e0 [cO]
def qC:ag:=Ah.add 109 [cO] (cN cO zK (fun _ r K=>K [tI r] none))
theorem abl:aP Tryz.prog qC:=cP JK Tryz.f109 (fun R kk x0 K=>Zw x0 (fun a0=>K [tI a0] none)) abk (ek _ _ _ _) Tryz.func109 (by kernel_rfl) rfl (fun _ _ _ _ _ _ h=>h _ _) (fun _ _ _ _=>by kernel_rfl) fun R kk e x0 K=>by
 simp only[zK,Zw,aC]
def qi:Env:=cc.env (fun i=>bif Nat.beq i 7 then [1,4,5] else []) (fun i=>bif Nat.beq i 7 then [2,3] else []) [] [aK]
def Zx(a b:Int)(c:ae):Option R:=az (ev qi (qC R) kk (sub [1,1,1,1,0,1,0,0] (cd Tryz.f108))) [1,4,5] [2,3] k ⟨uS 1 ([.ptr 2 aK []]::uS 2 ([tI a]::[tI b]::uS 49 [])),nS 2 ((some ⟨aK,c,[]⟩)::nS 53 [])⟩ J
def zqj(a b:Int):State:=⟨uS 2 ([tI a]::[tI b]::uS 51 []),nS 56 []⟩
def zqk:State:=⟨uS 55 [],nS 56 []⟩
def FQ:KX R:=(zk 0 (aU qi (qC R) kk (sub [1,1,1,1,1] (cd Tryz.f108)) (aS qi Tryz.f108.results.toList none K)))
theorem apv(a b:Int)(c:ae):Zx R kk (k+1) J a b c=
 SD a b c (fun a0 a1=>J .ret (zqj a0 a1)) (Zx R kk k J) (J (.exit 0) (zqk)):=by kernel_rfl
theorem akf(a b:Int):FQ R kk K .ret (zqj a b)=
 Zy a b (fun a0 a1=>K [tI a0,tI a1] none):=by kernel_rfl
theorem akg:FQ R kk K (.exit 0) (zqk)=
 Zz (fun a0 a1=>K [tI a0,tI a1] none):=by kernel_rfl
theorem anu{kk:Nat}(hF:kk=af)(t4 t5:Int)(cV:ae):Zx R kk k J t4 t5 cV=(yI k t4 t5 cV).bind fun e=>(Sum.elim (fun(we:(Int×Int))=>J .ret (zqj we.1 we.2)) (fun(we:Unit)=>J (.exit 0) (zqk)) e):=by
 induction k generalizing t4 t5 cV with
 |zero=>rfl
 |succ k ih=>
  rw[apv]
  simp only[yI,SD,ih,aC]
def Ai:ag:=qC.add 108 [aK] (cN aK JO (fun _ r K=>K [tI r.1,tI r.2] none))
theorem abm:aP Tryz.prog Ai:=cP qi Tryz.f108 (fun R kk x0 K=>IA x0 (fun a0 a1=>K [tI a0,tI a1] none) (fun a0 a1 a2=>Zx R kk kk (FQ R kk K) a0 a1 a2)) abl (ek _ _ _ _) Tryz.func108 (by kernel_rfl) rfl (fun _ _ _ _ _ _ h=>h _ _) (fun _ _ _ _=>by kernel_rfl) fun R kk e x0 K=>by
 simp only[JO,ac4,Zy,Zz,anu (hF:=e),akf,akg,aC,<-e]
def JR:Env:=e0 [aK]
def qD:ag:=Ai.add 77 [aK] (cN aK Ci (fun _ r K=>K [tB r] none))
theorem abn:aP Tryz.prog qD:=cP JR Tryz.f77 (fun R kk x0 K=>ZD x0 (fun a0=>K [tB a0] none)) abm (ek _ _ _ _) Tryz.func77 (by kernel_rfl) rfl (fun _ _ _ _ _ _ h=>h _ _) (fun _ _ _ _=>by kernel_rfl) fun R kk e x0 K=>by
 simp only[Ci,ZD,aC]
def qj:Env:=cc.env (fun i=>bif Nat.beq i 2 then [1,2,5] else []) (fun i=>bif Nat.beq i 2 then [4] else []) [] [aK,(.int .i64)]
def ZB(a b:Int)(c:ae):Option R:=az (ev qj (qD R) kk (sub [1,0,1,0,0] (cd Tryz.f78))) [1,2,5] [4] k ⟨uS 1 ([tI a]::[.ptr 3 aK []]::uS 2 ([tI b]::uS 16 [])),nS 3 ((some ⟨aK,c,[]⟩)::nS 19 [])⟩ J
def zql(a:Int):State:=⟨uS 4 ([tI a]::uS 17 []),nS 23 []⟩
def zqm:State:=⟨uS 22 [],nS 23 []⟩
def FR:KX R:=(zk 0 (aU qj (qD R) kk (sub [1,1] (cd Tryz.f78)) (aS qj Tryz.f78.results.toList none K)))
theorem apw(a b:Int)(c:ae):ZB R kk (k+1) J a b c=
 FT a b c (fun a0=>J .ret (zql a0)) (ZB R kk k J) (J (.exit 0) (zqm)):=by kernel_rfl
theorem akh(a:Int):FR R kk K .ret (zql a)=
 FU a (fun a0=>K [tI a0] none):=by kernel_rfl
theorem aki:FR R kk K (.exit 0) (zqm)=
 FV (fun a0=>K [tI a0] none):=by kernel_rfl
theorem anv{kk:Nat}(hF:kk=af)(fS t5:Int)(dD:ae):ZB R kk k J fS t5 dD=(SE k fS t5 dD).bind fun e=>(Sum.elim (fun(we:Int)=>J .ret (zql we)) (fun(we:Unit)=>J (.exit 0) (zqm)) e):=by
 induction k generalizing fS t5 dD with
 |zero=>rfl
 |succ k ih=>
  rw[apw]
  simp only[SE,FT,ih,aC]
def qE:ag:=qD.add 78 [aK,(.int .i64)] (dJ aK (.int .i64) zM (fun _ r K=>K [tI r] none))
theorem abo:aP Tryz.prog qE:=dN qj Tryz.f78 (fun R kk x0 x1 K=>ZC x0 x1 (ZB R kk kk (FR R kk K))) abn (ek _ _ _ _) Tryz.func78 (by kernel_rfl) rfl (fun _ _ _ _ _ _ h=>h _ _) (fun _ _ _ _ _=>by kernel_rfl) fun R kk e x0 x1 K=>by
 simp only[zM,ZC,FU,FV,anv (hF:=e),akh,aki,aC,<-e]
def p8:Env:=cc.env (fun i=>bif Nat.beq i 2 then [0,1,5] else []) (fun i=>bif Nat.beq i 2 then [4] else []) [] [(.sl 3 (.int .i64)),(.int .i64)]
def Zr(a:(List Int))(b c:Int):Option R:=az (ev p8 (qE R) kk (sub [1,0,1,0,0] (cd Tryz.f79))) [0,1,5] [4] k ⟨[.aj (.sl 3 (.int .i64)) a []]::[tI b]::uS 3 ([tI c]::uS 12 []),nS 19 []⟩ J
def zqd(a:Bool):State:=⟨uS 4 ([tB a]::uS 13 []),nS 19 []⟩
def zqe:State:=⟨uS 18 [],nS 19 []⟩
def FG:KX R:=(zk 0 (aU p8 (qE R) kk (sub [1,1] (cd Tryz.f79)) (aS p8 Tryz.f79.results.toList none K)))
theorem apq(a:(List Int))(b c:Int):Zr R kk (k+1) J a b c=
 Sx a b c (fun a0=>J .ret (zqd a0)) (Zr R kk k J) (J (.exit 0) (zqe)):=by kernel_rfl
theorem aj9(a:Bool):FG R kk K .ret (zqd a)=
 FH a (fun a0=>K [tB a0] none):=by kernel_rfl
theorem aka:FG R kk K (.exit 0) (zqe)=
 FI (fun a0=>K [tB a0] none):=by kernel_rfl
theorem ano{kk:Nat}(hF:kk=af)(fQ:(List Int))(mO t5:Int):Zr R kk k J fQ mO t5=(Hb k fQ mO t5).bind fun e=>(Sum.elim (fun(we:Bool)=>J .ret (zqd we)) (fun(we:Unit)=>J (.exit 0) (zqe)) e):=by
 induction k generalizing fQ mO t5 with
 |zero=>rfl
 |succ k ih=>
  rw[apq]
  simp only[Hb,Sx,ih,aC]
def qF:ag:=qE.add 79 [(.sl 3 (.int .i64)),(.int .i64)] (dJ (.sl 3 (.int .i64)) (.int .i64) JE (fun _ r K=>K [tB r] none))
theorem abp:aP Tryz.prog qF:=dN p8 Tryz.f79 (fun R kk x0 x1 K=>Zs x0 x1 (Zr R kk kk (FG R kk K))) abo (ek _ _ _ _) Tryz.func79 (by kernel_rfl) rfl (fun _ _ _ _ _ _ h=>h _ _) (fun _ _ _ _ _=>by kernel_rfl) fun R kk e x0 x1 K=>by
 simp only[JE,Zs,FH,FI,ano (hF:=e),aj9,aka,aC,<-e]
def XR:Env:=cc.env (fun i=>bif Nat.beq i 2 then [0,1,2,7] else []) (fun i=>bif Nat.beq i 2 then [6] else []) [] [(.sl 107 (.pair (.int .i64) (.pair .str .unit))),(.int .i64),(.int .i64)]
def Vd(a:ap)(b c d:Int):Option R:=az (ev XR (qF R) kk (sub [1,0,1,0,0] (cd Tryz.f80))) [0,1,2,7] [6] k ⟨[.aj (.sl 107 (.pair (.int .i64) (.pair .str .unit))) a []]::[tI b]::[tI c]::uS 4 ([tI d]::uS 13 []),nS 22 []⟩ J
def zey(a:Int):State:=⟨uS 6 ([tI a]::uS 14 []),nS 22 []⟩
def zez:State:=⟨uS 21 [],nS 22 []⟩
def zym:KX R:=(zk 0 (aU XR (qF R) kk (sub [1,1] (cd Tryz.f80)) (aS XR Tryz.f80.results.toList none K)))
theorem amo(a:ap)(b c d:Int):Vd R kk (k+1) J a b c d=
 RA a b c d (fun a0=>J .ret (zey a0)) (Vd R kk k J) (J (.exit 0) (zez)):=by kernel_rfl
theorem afo(a:Int):zym R kk K .ret (zey a)=
 zyn a (fun a0=>K [tI a0] none):=by kernel_rfl
theorem afp:zym R kk K (.exit 0) (zez)=
 zyo (fun a0=>K [tI a0] none):=by kernel_rfl
theorem ai3{kk:Nat}(hF:kk=af)(fQ:ap)(mO e_2 t7:Int):Vd R kk k J fQ mO e_2 t7=(GF k fQ mO e_2 t7).bind fun e=>(Sum.elim (fun(we:Int)=>J .ret (zey we)) (fun(we:Unit)=>J (.exit 0) (zez)) e):=by
 induction k generalizing fQ mO e_2 t7 with
 |zero=>rfl
 |succ k ih=>
  rw[amo]
  simp only[GF,RA,ih,aC]
def Aj:ag:=qF.add 80 [(.sl 107 (.pair (.int .i64) (.pair .str .unit))),(.int .i64),(.int .i64)] (lh (.sl 107 (.pair (.int .i64) (.pair .str .unit))) (.int .i64) (.int .i64) rF (fun _ r K=>K [tI r] none))
theorem abq:aP Tryz.prog Aj:=lA XR Tryz.f80 (fun R kk x0 x1 x2 K=>Ve x0 x1 x2 (Vd R kk kk (zym R kk K))) abp (ek _ _ _ _) Tryz.func80 (by kernel_rfl) rfl (fun _ _ _ _ _ _ h=>h _ _) (fun _ _ _ _ _ _=>by kernel_rfl) fun R kk e x0 x1 x2 K=>by
 simp only[rF,Ve,zyn,zyo,ai3 (hF:=e),afo,afp,aC,<-e]
def JD:Env:=e0 [(.int .i64),(.int .u8)]
def qG:ag:=Aj.add 158 [(.int .i64),(.int .u8)] (dJ (.int .i64) (.int .u8) zA (fun _ r K=>K [tB r] none))
theorem abr:aP Tryz.prog qG:=dN JD Tryz.f158 (fun R kk x0 x1 K=>Zn x0 x1 (fun a0=>K [tB a0] none)) abq (ek _ _ _ _) Tryz.func158 (by kernel_rfl) rfl (fun _ _ _ _ _ _ h=>h _ _) (fun _ _ _ _ _=>by kernel_rfl) fun R kk e x0 x1 K=>by
 simp only[zA,Zn,aC]
def pZ:Env:=cc.env (fun i=>bif Nat.beq i 2 then [0,1,5] else []) (fun i=>bif Nat.beq i 2 then [4] else []) [] [(.int .i64),.str]
def Zl(a:Int)(b:ByteArray)(c:Int):Option R:=az (ev pZ (qG R) kk (sub [1,0,1,0,0] (cd Tryz.f110))) [0,1,5] [4] k ⟨[tI a]::[tS b]::uS 3 ([tI c]::uS 13 []),nS 20 []⟩ J
def zq9(a:Int):State:=⟨uS 4 ([tI a]::uS 14 []),nS 20 []⟩
def zqa:State:=⟨uS 19 [],nS 20 []⟩
def Fz:KX R:=(zk 0 (aU pZ (qG R) kk (sub [1,1] (cd Tryz.f110)) (aS pZ Tryz.f110.results.toList none K)))
theorem apn(a:Int)(b:ByteArray)(c:Int):Zl R kk (k+1) J a b c=
 Sw a b c (fun a0=>J .ret (zq9 a0)) (Zl R kk k J) (J (.exit 0) (zqa)):=by kernel_rfl
theorem aj5(a:Int):Fz R kk K .ret (zq9 a)=
 FA a (fun a0=>K [tI a0] none):=by kernel_rfl
theorem aj6:Fz R kk K (.exit 0) (zqa)=
 FB (fun a0=>K [tI a0] none):=by kernel_rfl
theorem anm{kk:Nat}(hF:kk=af)(mB:Int)(j5:ByteArray)(t5:Int):Zl R kk k J mB j5 t5=(Ha k mB j5 t5).bind fun e=>(Sum.elim (fun(we:Int)=>J .ret (zq9 we)) (fun(we:Unit)=>J (.exit 0) (zqa)) e):=by
 induction k generalizing mB j5 t5 with
 |zero=>rfl
 |succ k ih=>
  rw[apn]
  simp only[Ha,Sw,ih,aC]
def Ak:ag:=qG.add 110 [(.int .i64),.str] (dJ (.int .i64) .str JC (fun _ r K=>K [tI r] none))
theorem abt:aP Tryz.prog Ak:=dN pZ Tryz.f110 (fun R kk x0 x1 K=>Zm x0 x1 (Zl R kk kk (Fz R kk K))) abr (ek _ _ _ _) Tryz.func110 (by kernel_rfl) rfl (fun _ _ _ _ _ _ h=>h _ _) (fun _ _ _ _ _=>by kernel_rfl) fun R kk e x0 x1 K=>by
 simp only[JC,Zm,FA,FB,anm (hF:=e),aj5,aj6,aC,<-e]
def JG:Env:=e0 [(.int .u8)]
def Al:ag:=Ak.add 207 [(.int .u8)] (cN (.int .u8) zE (fun _ r K=>K [tI r] none))
theorem abu:aP Tryz.prog Al:=cP JG Tryz.f207 (fun R kk x0 K=>FJ x0 (fun a0=>K [tI a0] none)) abt (ek _ _ _ _) Tryz.func207 (by kernel_rfl) rfl (fun _ _ _ _ _ _ h=>h _ _) (fun _ _ _ _=>by kernel_rfl) fun R kk e x0 K=>by
 simp only[zE,FJ,aC]
def JH:Env:=e0 [.str,(.int .i64)]
def Am:ag:=Al.add 159 [.str,(.int .i64)] (dJ .str (.int .i64) zG (fun _ r K=>K [tI r.1,tI r.2.1,tI r.2.2] none))
theorem abv:aP Tryz.prog Am:=dN JH Tryz.f159 (fun R kk x0 x1 K=>Sy x0 x1 (fun a0 a1 a2=>K [tI a0,tI a1,tI a2] none)) abu (ek _ _ _ _) Tryz.func159 (by kernel_rfl) rfl (fun _ _ _ _ _ _ h=>h _ _) (fun _ _ _ _ _=>by kernel_rfl) fun R kk e x0 x1 K=>by
 simp only[zG,Sy,aC]
def JI:Env:=e0 [.str,(.int .i64)]
def qH:ag:=Am.add 160 [.str,(.int .i64)] (dJ .str (.int .i64) zH (fun _ r K=>K [tI r.1,tI r.2.1,tI r.2.2] none))
theorem abw:aP Tryz.prog qH:=dN JI Tryz.f160 (fun R kk x0 x1 K=>Sz x0 x1 (fun a0 a1 a2=>K [tI a0,tI a1,tI a2] none)) abv (ek _ _ _ _) Tryz.func160 (by kernel_rfl) rfl (fun _ _ _ _ _ _ h=>h _ _) (fun _ _ _ _ _=>by kernel_rfl) fun R kk e x0 x1 K=>by
 simp only[zH,Sz,aC]
def qc:Env:=cc.env (fun i=>bif Nat.beq i 2 then [0,1,2,7] else []) (fun i=>bif Nat.beq i 2 then [6] else []) [] [(.sl 245 (.pair (.int .i64) (.pair .str .unit))),(.int .i64),(.int .i64)]
def Zu(a:ap)(b c d:Int):Option R:=az (ev qc (qH R) kk (sub [1,0,1,0,0] (cd Tryz.f161))) [0,1,2,7] [6] k ⟨[.aj (.sl 245 (.pair (.int .i64) (.pair .str .unit))) a []]::[tI b]::[tI c]::uS 4 ([tI d]::uS 12 []),nS 21 []⟩ J
def zqh(a:Bool):State:=⟨uS 6 ([tB a]::uS 13 []),nS 21 []⟩
def zqi:State:=⟨uS 20 [],nS 21 []⟩
def FN:KX R:=(zk 0 (aU qc (qH R) kk (sub [1,1] (cd Tryz.f161)) (aS qc Tryz.f161.results.toList none K)))
theorem apt(a:ap)(b c d:Int):Zu R kk (k+1) J a b c d=
 SC a b c d (fun a0=>J .ret (zqh a0)) (Zu R kk k J) (J (.exit 0) (zqi)):=by kernel_rfl
theorem akd(a:Bool):FN R kk K .ret (zqh a)=
 FO a (fun a0=>K [tB a0] none):=by kernel_rfl
theorem ake:FN R kk K (.exit 0) (zqi)=
 FP (fun a0=>K [tB a0] none):=by kernel_rfl
theorem anr{kk:Nat}(hF:kk=af)(fQ:ap)(mO vv t7:Int):Zu R kk k J fQ mO vv t7=(Hc k fQ mO vv t7).bind fun e=>(Sum.elim (fun(we:Bool)=>J .ret (zqh we)) (fun(we:Unit)=>J (.exit 0) (zqi)) e):=by
 induction k generalizing fQ mO vv t7 with
 |zero=>rfl
 |succ k ih=>
  rw[apt]
  simp only[Hc,SC,ih,aC]
def qI:ag:=qH.add 161 [(.sl 245 (.pair (.int .i64) (.pair .str .unit))),(.int .i64),(.int .i64)] (lh (.sl 245 (.pair (.int .i64) (.pair .str .unit))) (.int .i64) (.int .i64) JJ (fun _ r K=>K [tB r] none))
theorem abx:aP Tryz.prog qI:=lA qc Tryz.f161 (fun R kk x0 x1 x2 K=>Zv x0 x1 x2 (Zu R kk kk (FN R kk K))) abw (ek _ _ _ _) Tryz.func161 (by kernel_rfl) rfl (fun _ _ _ _ _ _ h=>h _ _) (fun _ _ _ _ _ _=>by kernel_rfl) fun R kk e x0 x1 x2 K=>by
 simp only[JJ,Zv,FO,FP,anr (hF:=e),akd,ake,aC,<-e]
def qb:Env:=cc.env (fun i=>bif Nat.beq i 3 then [0,5,6] else []) (fun i=>bif Nat.beq i 3 then [2,3,4,5] else []) [] [.str]
def Zt(a:ByteArray)(b:ap)(c:Int):Option R:=az (ev qb (qI R) kk (sub [1,1,1,0,0,0] (cd Tryz.f111))) [0,5,6] [2,3,4,5] k ⟨[tS a]::uS 4 ([.aj (.sl 245 (.pair (.int .i64) (.pair .str .unit))) b [[]]]::[tI c]::uS 61 []),nS 69 []⟩ J
def zqf(a:ap)(b c:Int)(d:ap):State:=⟨uS 2 ([.aj (.sl 245 (.pair (.int .i64) (.pair .str .unit))) a [[]]]::[tI b]::[tI c]::[.aj (.sl 245 (.pair (.int .i64) (.pair .str .unit))) d [[]]]::uS 62 []),nS 69 []⟩
def zqg(a:ap):State:=⟨uS 5 ([.aj (.sl 245 (.pair (.int .i64) (.pair .str .unit))) a [[]]]::uS 62 []),nS 69 []⟩
def FK:KX R:=(zk 0 (aU qb (qI R) kk (sub [1,1,1,1] (cd Tryz.f111)) (aS qb Tryz.f111.results.toList none K)))
theorem aps(a:ByteArray)(b:ap)(c:Int):Zt R kk (k+1) J a b c=
 SB a b c (fun a0 a1 a2 a3=>J .ret (zqf a0 a1 a2 a3)) (Zt R kk k J) (fun a0=>J (.exit 0) (zqg a0)):=by kernel_rfl
theorem akb(a:ap)(b c:Int)(d:ap):FK R kk K .ret (zqf a b c d)=
 FL a b c d (fun a0 a1 a2=>K [.aj (.sl 245 (.pair (.int .i64) (.pair .str .unit))) a0 [[]],tI a1,tI a2] none):=by kernel_rfl
theorem akc(a:ap):FK R kk K (.exit 0) (zqg a)=
 FM a (fun a0 a1 a2=>K [.aj (.sl 245 (.pair (.int .i64) (.pair .str .unit))) a0 [],tI a1,tI a2] none):=by kernel_rfl
theorem anq{kk:Nat}(hF:kk=af)(oU:ByteArray)(t5:ap)(t6:Int):Zt R kk k J oU t5 t6=(B3 k oU t5 t6).bind fun e=>(Sum.elim (fun(we:rT)=>J .ret (zqf we.1 we.2.1 we.2.2.1 we.2.2.2)) (fun(we:ap)=>J (.exit 0) (zqg we)) e):=by
 induction k generalizing oU t5 t6 with
 |zero=>rfl
 |succ k ih=>
  rw[aps]
  simp only[B3,SB,ih,aC]
def An:ag:=qI.add 111 [.str] (cN .str zJ (fun _ r K=>(Sum.elim (fun(wr:jX)=>K [.aj (.sl 245 (.pair (.int .i64) (.pair .str .unit))) wr.1 [[]],tI wr.2.1,tI wr.2.2] none) (fun(wr:jX)=>K [.aj (.sl 245 (.pair (.int .i64) (.pair .str .unit))) wr.1 [],tI wr.2.1,tI wr.2.2] none) r)))
theorem aby:aP Tryz.prog An:=cP qb Tryz.f111 (fun R kk x0 K=>SA x0 (Zt R kk kk (FK R kk K))) abx (ek _ _ _ _) Tryz.func111 (by kernel_rfl) rfl (fun _ _ _ _ _ _ h=>Sf (fun _=>h _ _) (fun _=>h _ _)) (fun _ _ _ _=>by kernel_rfl) fun R kk e x0 K=>by
 simp only[zJ,SA,FL,FM,anq (hF:=e),akb,akc,aC,<-e]
def JL:Env:=e0 [cO,.str]
def lK:ag:=An.add 81 [cO,.str] (dJ cO .str np (fun _ r K=>K [tI r] none))
theorem abz:aP Tryz.prog lK:=dN JL Tryz.f81 (fun R kk x0 x1 K=>Iy x0 x1 (fun a0=>K [tI a0] none)) aby (ek _ _ _ _) Tryz.func81 (by kernel_rfl) rfl (fun _ _ _ _ _ _ h=>h _ _) (fun _ _ _ _ _=>by kernel_rfl) fun R kk e x0 x1 K=>by
 simp only[np,Iy,aC]
def G2:Env:=cc.env (fun i=>bif Nat.beq i 7 then [1,5,6] else bif Nat.beq i 16 then [1,5,7] else []) (fun i=>bif Nat.beq i 7 then [1,2,3,4,5] else bif Nat.beq i 16 then [1,2,3,4] else []) [] [cB]
def U5(a b:Int)(c:au):Option R:=az (ev G2 (lK R) kk (sub [1,1,1,1,0,1,0,0] (cd Tryz.f60))) [1,5,6] [1,2,3,4,5] k ⟨uS 1 ([.ptr 2 cB []]::uS 3 ([tI a]::[tI b]::uS 109 [])),nS 2 ((some ⟨cB,c,[]⟩)::nS 114 [])⟩ J
def zes(a b c d:Int)(e:au):State:=⟨uS 1 ([.ptr 2 cB []]::[tI a]::[tI b]::[tI c]::[tI d]::uS 110 []),nS 2 ((some ⟨cB,e,[]⟩)::nS 114 [])⟩
def zet(a:Int)(b:au):State:=⟨uS 1 ([.ptr 2 cB []]::uS 3 ([tI a]::uS 110 [])),nS 2 ((some ⟨cB,b,[]⟩)::nS 114 [])⟩
def zyd:KX R:=(zk 0 (aU G2 (lK R) kk (sub [1,1,1,1,1] (cd Tryz.f60)) (aS G2 Tryz.f60.results.toList none K)))
def U6(a b:Int)(c:au):Option R:=az (ev G2 (lK R) kk (sub [1,1,1,1,1,0,1,0,0] (cd Tryz.f60))) [1,5,7] [1,2,3,4] k ⟨uS 1 ([.ptr 2 cB []]::uS 3 ([tI a]::uS 1 ([tI b]::uS 108 []))),nS 2 ((some ⟨cB,c,[]⟩)::nS 114 [])⟩ J
def zeu(a b c:Int)(d:au):State:=⟨uS 1 ([.ptr 2 cB []]::[tI a]::[tI b]::[tI c]::uS 111 []),nS 2 ((some ⟨cB,d,[]⟩)::nS 114 [])⟩
def zev(a:au):State:=⟨uS 1 ([.ptr 2 cB []]::uS 114 []),nS 2 ((some ⟨cB,a,[]⟩)::nS 114 [])⟩
def zye:KX R:=(zk 2 (aU G2 (lK R) kk (sub [1,1,1,1,1,1] (cd Tryz.f60)) (aS G2 Tryz.f60.results.toList none K)))
theorem aml(a b:Int)(c:au):U5 R kk (k+1) J a b c=
 Ry a b c (fun a0 a1 a2 a3 a4=>J .ret (zes a0 a1 a2 a3 a4)) (U5 R kk k J) (fun a0 a1=>J (.exit 0) (zet a0 a1)):=by kernel_rfl
theorem afi(a b c d:Int)(e:au):zyd R kk K .ret (zes a b c d e)=
 zyf a b c d e (fun a0 a1 a2=>K [tI a0,tI a1,tI a2] none):=by kernel_rfl
theorem afj(a:Int)(b:au):zyd R kk K (.exit 0) (zet a b)=
 U8 a b (U6 R kk kk (zye R kk K)):=by kernel_rfl
theorem amm(a b:Int)(c:au):U6 R kk (k+1) J a b c=
 Rz a b c (fun a0 a1 a2 a3=>J .ret (zeu a0 a1 a2 a3)) (U6 R kk k J) (fun a0=>J (.exit 2) (zev a0)):=by kernel_rfl
theorem afk(a b c:Int)(d:au):zye R kk K .ret (zeu a b c d)=
 zyg a b c d (fun a0 a1 a2=>K [tI a0,tI a1,tI a2] none):=by kernel_rfl
theorem afl(a:au):zye R kk K (.exit 2) (zev a)=
 U9 a (fun a0 a1 a2=>K [tI a0,tI a1,tI a2] none):=by kernel_rfl
theorem ai0{kk:Nat}(hF:kk=af)(t5 t6:Int)(cV:au):U5 R kk k J t5 t6 cV=(GC k t5 t6 cV).bind fun e=>(Sum.elim (fun(we:(Int×Int×Int×Int×au))=>J .ret (zes we.1 we.2.1 we.2.2.1 we.2.2.2.1 we.2.2.2.2)) (fun(we:(Int×au))=>J (.exit 0) (zet we.1 we.2)) e):=by
 induction k generalizing t5 t6 cV with
 |zero=>rfl
 |succ k ih=>
  rw[aml]
  simp only[GC,Ry,ih,aC]
theorem ai1{kk:Nat}(hF:kk=af)(t5 t7:Int)(cV:au):U6 R kk k J t5 t7 cV=(GD k t5 t7 cV).bind fun e=>(Sum.elim (fun(we:(Int×Int×Int×au))=>J .ret (zeu we.1 we.2.1 we.2.2.1 we.2.2.2)) (fun(we:au)=>J (.exit 2) (zev we)) e):=by
 induction k generalizing t5 t7 cV with
 |zero=>rfl
 |succ k ih=>
  rw[amm]
  simp only[GD,Rz,ih,aC]
def Ao:ag:=lK.add 60 [cB] (cN cB tC (fun _ r K=>K [tI r.1,tI r.2.1,tI r.2.2] none))
theorem abA:aP Tryz.prog Ao:=cP G2 Tryz.f60 (fun R kk x0 K=>U7 x0 (fun a0 a1 a2=>K [tI a0,tI a1,tI a2] none) (U5 R kk kk (zyd R kk K))) abz (ek _ _ _ _) Tryz.func60 (by kernel_rfl) rfl (fun _ _ _ _ _ _ h=>h _ _) (fun _ _ _ _=>by kernel_rfl) fun R kk e x0 K=>by
 simp only[tC,U7,zyf,U8,zyg,U9,ai0 (hF:=e),ai1 (hF:=e),afi,afj,afk,afl,aC,<-e]
def JA:Env:=e0 [(.int .u8)]
def qJ:ag:=Ao.add 208 [(.int .u8)] (cN (.int .u8) Jz (fun _ r K=>K [tB r] none))
theorem abB:aP Tryz.prog qJ:=cP JA Tryz.f208 (fun R kk x0 K=>Zh x0 (fun a0=>K [tB a0] none)) abA (ek _ _ _ _) Tryz.func208 (by kernel_rfl) rfl (fun _ _ _ _ _ _ h=>h _ _) (fun _ _ _ _=>by kernel_rfl) fun R kk e x0 K=>by
 simp only[Jz,Zh,aC]
def pV:Env:=cc.env (fun i=>bif Nat.beq i 2 then [0,3] else []) (fun i=>bif Nat.beq i 2 then [2] else []) [] [.str]
def Ze(a:ByteArray)(b:Int):Option R:=az (ev pV (qJ R) kk (sub [1,0,1,0,0] (cd Tryz.f162))) [0,3] [2] k ⟨[tS a]::uS 2 ([tI b]::uS 11 []),nS 16 []⟩ J
def zq6(a:Bool):State:=⟨uS 2 ([tB a]::uS 12 []),nS 16 []⟩
def zq7:State:=⟨uS 15 [],nS 16 []⟩
def Fw:KX R:=(zk 0 (aU pV (qJ R) kk (sub [1,1] (cd Tryz.f162)) (aS pV Tryz.f162.results.toList none K)))
theorem apl(a:ByteArray)(b:Int):Ze R kk (k+1) J a b=
 Zg a b (fun a0=>J .ret (zq6 a0)) (Ze R kk k J) (J (.exit 0) (zq7)):=by kernel_rfl
theorem aj2(a:Bool):Fw R kk K .ret (zq6 a)=
 z175 a (fun a0=>K [tB a0] none):=by kernel_rfl
theorem aj3:Fw R kk K (.exit 0) (zq7)=
 Fx (fun a0=>K [tB a0] none):=by kernel_rfl
theorem ank{kk:Nat}(hF:kk=af)(jB:ByteArray)(t3:Int):Ze R kk k J jB t3=(Iw k jB t3).bind fun e=>(Sum.elim (fun(we:Bool)=>J .ret (zq6 we)) (fun(we:Unit)=>J (.exit 0) (zq7)) e):=by
 induction k generalizing jB t3 with
 |zero=>rfl
 |succ k ih=>
  rw[apl]
  simp only[Iw,Zg,ih,aC]
def Ap:ag:=qJ.add 162 [.str] (cN .str Hm (fun _ r K=>K [tB r] none))
theorem abC:aP Tryz.prog Ap:=cP pV Tryz.f162 (fun R kk x0 K=>Zf x0 (Ze R kk kk (Fw R kk K))) abB (ek _ _ _ _) Tryz.func162 (by kernel_rfl) rfl (fun _ _ _ _ _ _ h=>h _ _) (fun _ _ _ _=>by kernel_rfl) fun R kk e x0 K=>by
 simp only[Hm,Zf,z175,Fx,ank (hF:=e),aj2,aj3,aC,<-e]
def aoi:Env:=e0 [.str]
def Aq:ag:=Ap.add 112 [.str] (cN .str tm (fun _ r K=>K [tB r] none))
theorem abD:aP Tryz.prog Aq:=cP aoi Tryz.f112 (fun R kk x0 K=>Uy x0 (fun a0=>K [tB a0] none)) abC (ek _ _ _ _) Tryz.func112 (by kernel_rfl) rfl (fun _ _ _ _ _ _ h=>h _ _) (fun _ _ _ _=>by kernel_rfl) fun R kk e x0 K=>by
 simp only[tm,Uy,aC]
def aon:Env:=e0 [.str,(.int .i64)]
def qK:ag:=Aq.add 82 [.str,(.int .i64)] (dJ .str (.int .i64) rE (fun _ r K=>K [tB r] none))
theorem abE:aP Tryz.prog qK:=dN aon Tryz.f82 (fun R kk x0 x1 K=>U2 x0 x1 (fun a0=>K [tB a0] none)) abD (ek _ _ _ _) Tryz.func82 (by kernel_rfl) rfl (fun _ _ _ _ _ _ h=>h _ _) (fun _ _ _ _ _=>by kernel_rfl) fun R kk e x0 x1 K=>by
 simp only[rE,U2,aC]
def pX:Env:=cc.env (fun i=>bif Nat.beq i 5 then [0,4,5] else []) (fun i=>bif Nat.beq i 5 then [4] else []) [] [.str]
def Zi(a:ByteArray)(b c:Int):Option R:=az (ev pX (qK R) kk (sub [1,1,1,0,1,0,0] (cd Tryz.f113))) [0,4,5] [4] k ⟨[tS a]::uS 3 ([tI b]::[tI c]::uS 28 []),nS 35 []⟩ J
def zq8(a:Int):State:=⟨uS 4 ([tI a]::uS 29 []),nS 35 []⟩
def Qi:KX R:=(zk 0 (aU pX (qK R) kk (sub [1,1,1,1] (cd Tryz.f113)) (aS pX Tryz.f113.results.toList none K)))
theorem apm(a:ByteArray)(b c:Int):Zi R kk (k+1) J a b c=
 Zk a b c (Zi R kk k J) (fun a0=>J (.exit 0) (zq8 a0)):=by kernel_rfl
theorem aj4(a:Int):Qi R kk K (.exit 0) (zq8 a)=
 Fy a (fun a0 a1=>K [tI a0,tB a1] none):=by kernel_rfl
theorem anl{kk:Nat}(hF:kk=af)(jB:ByteArray)(t4 t5:Int):Zi R kk k J jB t4 t5=(Ix k jB t4 t5).bind fun e=>J (.exit 0) (zq8 e):=by
 induction k generalizing jB t4 t5 with
 |zero=>rfl
 |succ k ih=>
  rw[apm]
  simp only[Ix,Zk,ih,aC]
def Ar:ag:=qK.add 113 [.str] (cN .str JB (fun _ r K=>K [tI r.1,tB r.2] none))
theorem abF:aP Tryz.prog Ar:=cP pX Tryz.f113 (fun R kk x0 K=>Zj x0 (fun a0 a1=>K [tI a0,tB a1] none) (Zi R kk kk (Qi R kk K))) abE (ek _ _ _ _) Tryz.func113 (by kernel_rfl) rfl (fun _ _ _ _ _ _ h=>h _ _) (fun _ _ _ _=>by kernel_rfl) fun R kk e x0 K=>by
 simp only[JB,Zj,Fy,anl (hF:=e),aj4,aC,<-e]
def JU:Env:=e0 [.str]
def qL:ag:=Ar.add 83 [.str] (cN .str Ho (fun _ r K=>K [tB r] none))
theorem abG:aP Tryz.prog qL:=cP JU Tryz.f83 (fun R kk x0 K=>ZG x0 (fun a0=>K [tB a0] none)) abF (ek _ _ _ _) Tryz.func83 (by kernel_rfl) rfl (fun _ _ _ _ _ _ h=>h _ _) (fun _ _ _ _=>by kernel_rfl) fun R kk e x0 K=>by
 simp only[Ho,ZG,aC]
def XJ:Env:=cc.env (fun i=>bif Nat.beq i 2 then [0,1,2,7] else []) (fun i=>bif Nat.beq i 2 then [6] else []) [] [(.sl 109 (.pair .str (.pair .str .unit))),(.int .i64),.str]
def UF(a:aQ)(b:Int)(c:ByteArray)(d:Int):Option R:=az (ev XJ (qL R) kk (sub [1,0,1,0,0] (cd Tryz.f114))) [0,1,2,7] [6] k ⟨[.aj (.sl 109 (.pair .str (.pair .str .unit))) a []]::[tI b]::[tS c]::uS 4 ([tI d]::uS 13 []),nS 22 []⟩ J
def zec(a:Int):State:=⟨uS 6 ([tI a]::uS 14 []),nS 22 []⟩
def zed:State:=⟨uS 21 [],nS 22 []⟩
def zxa:KX R:=(zk 0 (aU XJ (qL R) kk (sub [1,1] (cd Tryz.f114)) (aS XJ Tryz.f114.results.toList none K)))
theorem amb(a:aQ)(b:Int)(c:ByteArray)(d:Int):UF R kk (k+1) J a b c d=
 Rr a b c d (fun a0=>J .ret (zec a0)) (UF R kk k J) (J (.exit 0) (zed)):=by kernel_rfl
theorem aeV(a:Int):zxa R kk K .ret (zec a)=
 zxb a (fun a0=>K [tI a0] none):=by kernel_rfl
theorem aeW:zxa R kk K (.exit 0) (zed)=
 zxc (fun a0=>K [tI a0] none):=by kernel_rfl
theorem aiG{kk:Nat}(hF:kk=af)(fQ:aQ)(mO:Int)(oW:ByteArray)(t7:Int):UF R kk k J fQ mO oW t7=(Gu k fQ mO oW t7).bind fun e=>(Sum.elim (fun(we:Int)=>J .ret (zec we)) (fun(we:Unit)=>J (.exit 0) (zed)) e):=by
 induction k generalizing fQ mO oW t7 with
 |zero=>rfl
 |succ k ih=>
  rw[amb]
  simp only[Gu,Rr,ih,aC]
def As:ag:=qL.add 114 [(.sl 109 (.pair .str (.pair .str .unit))),(.int .i64),.str] (lh (.sl 109 (.pair .str (.pair .str .unit))) (.int .i64) .str rD (fun _ r K=>K [tI r] none))
theorem abH:aP Tryz.prog As:=lA XJ Tryz.f114 (fun R kk x0 x1 x2 K=>UG x0 x1 x2 (UF R kk kk (zxa R kk K))) abG (ek _ _ _ _) Tryz.func114 (by kernel_rfl) rfl (fun _ _ _ _ _ _ h=>h _ _) (fun _ _ _ _ _ _=>by kernel_rfl) fun R kk e x0 x1 x2 K=>by
 simp only[rD,UG,zxb,zxc,aiG (hF:=e),aeV,aeW,aC,<-e]
def aoj:Env:=e0 [(.sl 109 (.pair .str (.pair .str .unit))),.str]
def qM:ag:=As.add 84 [(.sl 109 (.pair .str (.pair .str .unit))),.str] (dJ (.sl 109 (.pair .str (.pair .str .unit))) .str tn (fun _ r K=>K [tS r.1,tB r.2] none))
theorem abI:aP Tryz.prog qM:=dN aoj Tryz.f84 (fun R kk x0 x1 K=>Uz x0 x1 (fun a0 a1=>K [tS a0,tB a1] none)) abH (ek _ _ _ _) Tryz.func84 (by kernel_rfl) rfl (fun _ _ _ _ _ _ h=>h _ _) (fun _ _ _ _ _=>by kernel_rfl) fun R kk e x0 x1 K=>by
 simp only[tn,Uz,aC]
def p7:Env:=cc.env (fun i=>bif Nat.beq i 4 then [0,1,5] else []) (fun i=>bif Nat.beq i 4 then [4] else []) [] [(.int .i64),(.int .i64)]
def Zo(a b c:Int):Option R:=az (ev p7 (qM R) kk (sub [1,1,0,1,0,0] (cd Tryz.f163))) [0,1,5] [4] k ⟨[tI a]::[tI b]::uS 3 ([tI c]::uS 29 []),nS 36 []⟩ J
def zqb(a:Bool):State:=⟨uS 4 ([tB a]::uS 30 []),nS 36 []⟩
def zqc:State:=⟨uS 35 [],nS 36 []⟩
def FC:KX R:=(zk 0 (aU p7 (qM R) kk (sub [1,1,1] (cd Tryz.f163)) (aS p7 Tryz.f163.results.toList none K)))
theorem apo(a b c:Int):Zo R kk (k+1) J a b c=
 FD a b c (fun a0=>J .ret (zqb a0)) (Zo R kk k J) (J (.exit 0) (zqc)):=by kernel_rfl
theorem aj7(a:Bool):FC R kk K .ret (zqb a)=
 FE a (fun a0=>K [tB a0] none):=by kernel_rfl
theorem aj8:FC R kk K (.exit 0) (zqc)=
 FF (fun a0=>K [tB a0] none):=by kernel_rfl
theorem ann{kk:Nat}(hF:kk=af)(mw uy t5:Int):Zo R kk k J mw uy t5=(Zp k mw uy t5).bind fun e=>(Sum.elim (fun(we:Bool)=>J .ret (zqb we)) (fun(we:Unit)=>J (.exit 0) (zqc)) e):=by
 induction k generalizing mw uy t5 with
 |zero=>rfl
 |succ k ih=>
  rw[apo]
  simp only[Zp,FD,ih,aC]
def At:ag:=qM.add 163 [(.int .i64),(.int .i64)] (dJ (.int .i64) (.int .i64) Hn (fun _ r K=>K [tB r] none))
theorem abJ:aP Tryz.prog At:=dN p7 Tryz.f163 (fun R kk x0 x1 K=>Zq x0 x1 (fun a0=>K [tB a0] none) (Zo R kk kk (FC R kk K))) abI (ek _ _ _ _) Tryz.func163 (by kernel_rfl) rfl (fun _ _ _ _ _ _ h=>h _ _) (fun _ _ _ _ _=>by kernel_rfl) fun R kk e x0 x1 K=>by
 simp only[Hn,Zq,FE,FF,ann (hF:=e),aj7,aj8,aC,<-e]
def JM:Env:=e0 [cO,cO]
def qN:ag:=At.add 115 [cO,cO] (dJ cO cO vM (fun _ r K=>K [tB r] none))
theorem abK:aP Tryz.prog qN:=dN JM Tryz.f115 (fun R kk x0 x1 K=>Iz x0 x1 (fun a0=>K [tB a0] none)) abJ (ek _ _ _ _) Tryz.func115 (by kernel_rfl) rfl (fun _ _ _ _ _ _ h=>h _ _) (fun _ _ _ _ _=>by kernel_rfl) fun R kk e x0 x1 K=>by
 simp only[vM,Iz,aC]
def XH:Env:=cc.env (fun i=>bif Nat.beq i 4 then [0,4] else []) (fun i=>bif Nat.beq i 4 then [2,3] else []) [] [(.sl 109 (.pair .str (.pair .str .unit)))]
def UA(a:aQ)(b:Int):Option R:=az (ev XH (qN R) kk (sub [1,1,0,1,0,0] (cd Tryz.f116))) [0,4] [2,3] k ⟨[.aj (.sl 109 (.pair .str (.pair .str .unit))) a []]::uS 3 ([tI b]::uS 19 []),nS 25 []⟩ J
def ze9(a b:Int):State:=⟨uS 2 ([tI a]::[tI b]::uS 20 []),nS 25 []⟩
def zea:State:=⟨uS 24 [],nS 25 []⟩
def zx4:KX R:=(zk 0 (aU XH (qN R) kk (sub [1,1,1] (cd Tryz.f116)) (aS XH Tryz.f116.results.toList none K)))
theorem al9(a:aQ)(b:Int):UA R kk (k+1) J a b=
 Rq a b (fun a0 a1=>J .ret (ze9 a0 a1)) (UA R kk k J) (J (.exit 0) (zea)):=by kernel_rfl
theorem aeS(a b:Int):zx4 R kk K .ret (ze9 a b)=
 zx5 a b (fun a0 a1=>K [tI a0,tI a1] none):=by kernel_rfl
theorem aeT:zx4 R kk K (.exit 0) (zea)=
 zx6 (fun a0 a1=>K [tI a0,tI a1] none):=by kernel_rfl
theorem aiE{kk:Nat}(hF:kk=af)(fQ:aQ)(t4:Int):UA R kk k J fQ t4=(Gt k fQ t4).bind fun e=>(Sum.elim (fun(we:(Int×Int))=>J .ret (ze9 we.1 we.2)) (fun(we:Unit)=>J (.exit 0) (zea)) e):=by
 induction k generalizing fQ t4 with
 |zero=>rfl
 |succ k ih=>
  rw[al9]
  simp only[Gt,Rq,ih,aC]
def b7:ag:=qN.add 116 [(.sl 109 (.pair .str (.pair .str .unit)))] (cN (.sl 109 (.pair .str (.pair .str .unit))) tu (fun _ r K=>K [tI r.1,tI r.2] none))
theorem abL:aP Tryz.prog b7:=cP XH Tryz.f116 (fun R kk x0 K=>UB x0 (fun a0 a1=>K [tI a0,tI a1] none) (UA R kk kk (zx4 R kk K))) abK (ek _ _ _ _) Tryz.func116 (by kernel_rfl) rfl (fun _ _ _ _ _ _ h=>h _ _) (fun _ _ _ _=>by kernel_rfl) fun R kk e x0 K=>by
 simp only[tu,UB,zx5,zx6,aiE (hF:=e),aeS,aeT,aC,<-e]
def zw:Env:={cc.env (fun i=>bif Nat.beq i 27 then [3,4,5,7,8,13] else []) (fun i=>bif Nat.beq i 27 then [6] else []) [] [cG,aK,aK] with join:=fun i=>bif Nat.beq i 2 then some [3,4,5,23] else bif Nat.beq i 3 then some [3,4,5] else bif Nat.beq i 6 then some [3,4,5,7,8,48] else bif Nat.beq i 7 then some [3,4,5,7,8] else bif Nat.beq i 8 then some [3,4,5,7,8,65] else bif Nat.beq i 9 then some [3,4,5,7,8] else bif Nat.beq i 10 then some [3,4,5,7,8,84] else bif Nat.beq i 11 then some [3,4,5,7,8] else bif Nat.beq i 35 then some [] else bif Nat.beq i 21 then some [140] else bif Nat.beq i 25 then some [3,4,5,7,8,156] else bif Nat.beq i 26 then some [3,4,5,7,8] else bif Nat.beq i 29 then some [3,4,5,7,8,13] else bif Nat.beq i 32 then some [3,4,5,7,8,13] else bif Nat.beq i 28 then some [3,4,5,7,8,13] else none}
def O3(a:Bool)(b:aD)(c d:ae):Option R:=ev zw (b7 R) kk (sub [1,0,1] (cd Tryz.f85)) ⟨uS 3 ([.ptr 4 cG []]::[.ptr 5 aK []]::[.ptr 6 aK []]::uS 17 ([tB a]::uS 170 [])),nS 4 ((some ⟨cG,b,[]⟩)::(some ⟨aK,c,[]⟩)::(some ⟨aK,d,[]⟩)::nS 188 [])⟩ (aU zw (b7 R) kk (sub [1,1] (cd Tryz.f85)) (aS zw Tryz.f85.results.toList none K))
def O4(a:aD)(b c:ae):Option R:=ev zw (b7 R) kk (sub [1,1] (cd Tryz.f85)) ⟨uS 3 ([.ptr 4 cG []]::[.ptr 5 aK []]::[.ptr 6 aK []]::uS 188 []),nS 4 ((some ⟨cG,a,[]⟩)::(some ⟨aK,b,[]⟩)::(some ⟨aK,c,[]⟩)::nS 188 [])⟩ (aS zw Tryz.f85.results.toList none K)
def O5(a b:Int)(c:Bool)(d:aD)(e f:ae):Option R:=ev zw (b7 R) kk (sub [1,1,1,1,0,1] (cd Tryz.f85)) ⟨uS 3 ([.ptr 4 cG []]::[.ptr 5 aK []]::[.ptr 6 aK []]::uS 1 ([tI a]::[tI b]::uS 39 ([tB c]::uS 145 []))),nS 4 ((some ⟨cG,d,[]⟩)::(some ⟨aK,e,[]⟩)::(some ⟨aK,f,[]⟩)::nS 188 [])⟩ (aU zw (b7 R) kk (sub [1,1,1,1,1] (cd Tryz.f85)) (aS zw Tryz.f85.results.toList none K))
def O6(a b:Int)(c:aD)(d e:ae):Option R:=ev zw (b7 R) kk (sub [1,1,1,1,1] (cd Tryz.f85)) ⟨uS 3 ([.ptr 4 cG []]::[.ptr 5 aK []]::[.ptr 6 aK []]::uS 1 ([tI a]::[tI b]::uS 185 [])),nS 4 ((some ⟨cG,c,[]⟩)::(some ⟨aK,d,[]⟩)::(some ⟨aK,e,[]⟩)::nS 188 [])⟩ (aS zw Tryz.f85.results.toList none K)
def O7(a b:Int)(c:Bool)(d:aD)(e f:ae):Option R:=ev zw (b7 R) kk (sub [1,1,1,1,1,0,1] (cd Tryz.f85)) ⟨uS 3 ([.ptr 4 cG []]::[.ptr 5 aK []]::[.ptr 6 aK []]::uS 1 ([tI a]::[tI b]::uS 56 ([tB c]::uS 128 []))),nS 4 ((some ⟨cG,d,[]⟩)::(some ⟨aK,e,[]⟩)::(some ⟨aK,f,[]⟩)::nS 188 [])⟩ (aU zw (b7 R) kk (sub [1,1,1,1,1,1] (cd Tryz.f85)) (aS zw Tryz.f85.results.toList none K))
def O8(a b:Int)(c:aD)(d e:ae):Option R:=ev zw (b7 R) kk (sub [1,1,1,1,1,1] (cd Tryz.f85)) ⟨uS 3 ([.ptr 4 cG []]::[.ptr 5 aK []]::[.ptr 6 aK []]::uS 1 ([tI a]::[tI b]::uS 185 [])),nS 4 ((some ⟨cG,c,[]⟩)::(some ⟨aK,d,[]⟩)::(some ⟨aK,e,[]⟩)::nS 188 [])⟩ (aS zw Tryz.f85.results.toList none K)
def O9(a b:Int)(c:Bool)(d:aD)(e f:ae):Option R:=ev zw (b7 R) kk (sub [1,1,1,1,1,1,0,1] (cd Tryz.f85)) ⟨uS 3 ([.ptr 4 cG []]::[.ptr 5 aK []]::[.ptr 6 aK []]::uS 1 ([tI a]::[tI b]::uS 75 ([tB c]::uS 109 []))),nS 4 ((some ⟨cG,d,[]⟩)::(some ⟨aK,e,[]⟩)::(some ⟨aK,f,[]⟩)::nS 188 [])⟩ (aU zw (b7 R) kk (sub [1,1,1,1,1,1,1] (cd Tryz.f85)) (aS zw Tryz.f85.results.toList none K))
def Pa(a b:Int)(c:aD)(d e:ae):Option R:=ev zw (b7 R) kk (sub [1,1,1,1,1,1,1] (cd Tryz.f85)) ⟨uS 3 ([.ptr 4 cG []]::[.ptr 5 aK []]::[.ptr 6 aK []]::uS 1 ([tI a]::[tI b]::uS 185 [])),nS 4 ((some ⟨cG,c,[]⟩)::(some ⟨aK,d,[]⟩)::(some ⟨aK,e,[]⟩)::nS 188 [])⟩ (aS zw Tryz.f85.results.toList none K)
def UH:Option R:=ev zw (b7 R) kk (sub [1,1,1,1,1,1,1,1] (cd Tryz.f85)) ⟨uS 194 [],nS 195 []⟩ (aS zw Tryz.f85.results.toList none K)
def Pb(a:Bool):Option R:=ev zw (b7 R) kk (sub [1,1,1,1,1,1,1,0,1,0,1,1,1,1,1,0,1,1,1] (cd Tryz.f85)) ⟨uS 140 ([tB a]::uS 53 []),nS 195 []⟩ (zk 0 (aU zw (b7 R) kk (sub [1,1,1,1,1,1,1,1] (cd Tryz.f85)) (aS zw Tryz.f85.results.toList none K)))
def NL(a b:Int)(c:Bool)(d:aD)(e f:ae):Option R:=ev zw (b7 R) kk (sub [1,1,1,1,1,1,1,0,1,0,1,1,1,1,1,1,1,0,0,1,1] (cd Tryz.f85)) ⟨uS 3 ([.ptr 4 cG []]::[.ptr 5 aK []]::[.ptr 6 aK []]::uS 1 ([tI a]::[tI b]::uS 147 ([tB c]::uS 37 []))),nS 4 ((some ⟨cG,d,[]⟩)::(some ⟨aK,e,[]⟩)::(some ⟨aK,f,[]⟩)::nS 188 [])⟩ (aU zw (b7 R) kk (sub [1,1,1,1,1,1,1,0,1,0,1,1,1,1,1,1,1,0,1] (cd Tryz.f85)) (zk 0 (aU zw (b7 R) kk (sub [1,1,1,1,1,1,1,1] (cd Tryz.f85)) (aS zw Tryz.f85.results.toList none K))))
def NM(a b:Int)(c:aD)(d e:ae):Option R:=ev zw (b7 R) kk (sub [1,1,1,1,1,1,1,0,1,0,1,1,1,1,1,1,1,0,1] (cd Tryz.f85)) ⟨uS 3 ([.ptr 4 cG []]::[.ptr 5 aK []]::[.ptr 6 aK []]::uS 1 ([tI a]::[tI b]::uS 185 [])),nS 4 ((some ⟨cG,c,[]⟩)::(some ⟨aK,d,[]⟩)::(some ⟨aK,e,[]⟩)::nS 188 [])⟩ (zk 0 (aU zw (b7 R) kk (sub [1,1,1,1,1,1,1,1] (cd Tryz.f85)) (aS zw Tryz.f85.results.toList none K)))
def NN(a b c:Int)(d:aD)(e f:ae):Option R:=ev zw (b7 R) kk (sub [1,1,1,1,1,1,1,0,1,0,1,1,1,1,1,1,1,0,1,1,0,0,1] (cd Tryz.f85)) ⟨uS 3 ([.ptr 4 cG []]::[.ptr 5 aK []]::[.ptr 6 aK []]::uS 1 ([tI a]::[tI b]::uS 4 ([tI c]::uS 180 []))),nS 4 ((some ⟨cG,d,[]⟩)::(some ⟨aK,e,[]⟩)::(some ⟨aK,f,[]⟩)::nS 188 [])⟩ (nO (ev zw (b7 R) kk (sub [1,1,1,1,1,1,1,0,1,0,1,1,1,1,1,1,1,0,1,1,0,0] (cd Tryz.f85))) [3,4,5,7,8,13] [6] k J)
def NO(a b c:Int)(d:aD)(e f:ae):Option R:=ev zw (b7 R) kk (sub [1,1,1,1,1,1,1,0,1,0,1,1,1,1,1,1,1,0,1,1,0,0,1,0,0,1] (cd Tryz.f85)) ⟨uS 3 ([.ptr 4 cG []]::[.ptr 5 aK []]::[.ptr 6 aK []]::uS 1 ([tI a]::[tI b]::uS 4 ([tI c]::uS 180 []))),nS 4 ((some ⟨cG,d,[]⟩)::(some ⟨aK,e,[]⟩)::(some ⟨aK,f,[]⟩)::nS 188 [])⟩ (zk 2 (aU zw (b7 R) kk (sub [1,1,1,1,1,1,1,0,1,0,1,1,1,1,1,1,1,0,1,1,0,0,1,1] (cd Tryz.f85)) (nO (ev zw (b7 R) kk (sub [1,1,1,1,1,1,1,0,1,0,1,1,1,1,1,1,1,0,1,1,0,0] (cd Tryz.f85))) [3,4,5,7,8,13] [6] k J)))
def NP(a b c:Int)(d:aD)(e f:ae):Option R:=ev zw (b7 R) kk (sub [1,1,1,1,1,1,1,0,1,0,1,1,1,1,1,1,1,0,1,1,0,0,1,1] (cd Tryz.f85)) ⟨uS 3 ([.ptr 4 cG []]::[.ptr 5 aK []]::[.ptr 6 aK []]::uS 1 ([tI a]::[tI b]::uS 4 ([tI c]::uS 180 []))),nS 4 ((some ⟨cG,d,[]⟩)::(some ⟨aK,e,[]⟩)::(some ⟨aK,f,[]⟩)::nS 188 [])⟩ (nO (ev zw (b7 R) kk (sub [1,1,1,1,1,1,1,0,1,0,1,1,1,1,1,1,1,0,1,1,0,0] (cd Tryz.f85))) [3,4,5,7,8,13] [6] k J)
def UI(a b c:Int)(d:aD)(e f:ae):Option R:=az (ev zw (b7 R) kk (sub [1,1,1,1,1,1,1,0,1,0,1,1,1,1,1,1,1,0,1,1,0,0] (cd Tryz.f85))) [3,4,5,7,8,13] [6] k ⟨uS 3 ([.ptr 4 cG []]::[.ptr 5 aK []]::[.ptr 6 aK []]::uS 1 ([tI a]::[tI b]::uS 4 ([tI c]::uS 180 []))),nS 4 ((some ⟨cG,d,[]⟩)::(some ⟨aK,e,[]⟩)::(some ⟨aK,f,[]⟩)::nS 188 [])⟩ J
def zee:State:=⟨uS 194 [],nS 195 []⟩
def TW(a:Int):State:=⟨uS 6 ([tI a]::uS 187 []),nS 195 []⟩
def zxd:KX R:=(zk 1 (zk 0 (aU zw (b7 R) kk (sub [1,1,1,1,1,1,1,1] (cd Tryz.f85)) (aS zw Tryz.f85.results.toList none K))))
theorem aiH(a:Bool)(b:aD)(c d:ae):O3 R kk K a b c d=
 zxi a b c d (fun a0=>K [tI a0] none) (fun a0 a1 a2=>cL kk fun _=>O4 R kk K a0 a1 a2):=by kernel_rfl
theorem aiI(a:aD)(b c:ae):O4 R kk K a b c=
 H2 a b c (fun a0 a1 a2 a3 a4 a5=>cL kk fun _=>O5 R kk K a0 a1 a2 a3 a4 a5):=by kernel_rfl
theorem aiJ(a b:Int)(c:Bool)(d:aD)(e f:ae):O5 R kk K a b c d e f=
 zxj a b c d e f (fun a0=>K [tI a0] none) (fun a0 a1 a2 a3 a4=>cL kk fun _=>O6 R kk K a0 a1 a2 a3 a4):=by kernel_rfl
theorem aiK(a b:Int)(c:aD)(d e:ae):O6 R kk K a b c d e=
 H3 a b c d e (fun a0 a1 a2 a3 a4 a5=>cL kk fun _=>O7 R kk K a0 a1 a2 a3 a4 a5):=by kernel_rfl
theorem aiL(a b:Int)(c:Bool)(d:aD)(e f:ae):O7 R kk K a b c d e f=
 zxk a b c d e f (fun a0=>K [tI a0] none) (fun a0 a1 a2 a3 a4=>cL kk fun _=>O8 R kk K a0 a1 a2 a3 a4):=by kernel_rfl
theorem aiM(a b:Int)(c:aD)(d e:ae):O8 R kk K a b c d e=
 H4 a b c d e (fun a0 a1 a2 a3 a4 a5=>cL kk fun _=>O9 R kk K a0 a1 a2 a3 a4 a5):=by kernel_rfl
theorem aiN(a b:Int)(c:Bool)(d:aD)(e f:ae):O9 R kk K a b c d e f=
 zxl a b c d e f (fun a0=>K [tI a0] none) (fun a0 a1 a2 a3 a4=>cL kk fun _=>Pa R kk K a0 a1 a2 a3 a4):=by kernel_rfl
theorem aiO(a b:Int)(c:aD)(d e:ae):Pa R kk K a b c d e=
 H5 a b c d e (fun a0=>K [tI a0] none) (cL kk fun _=>UH R kk K) (fun a0=>cL kk fun _=>Pb R kk K a0) (fun a0 a1 a2 a3 a4 a5=>cL kk fun _=>NL R kk K a0 a1 a2 a3 a4 a5):=by kernel_rfl
theorem aiP:UH R kk K=
 zxm (fun a0=>K [tI a0] none):=by kernel_rfl
theorem aiQ(a:Bool):Pb R kk K a=
 zpi a (fun a0=>K [tI a0] none) (cL kk fun _=>UH R kk K):=by kernel_rfl
theorem aeX(a b:Int)(c:Bool)(d:aD)(e f:ae):NL R kk K a b c d e f=
 zpj a b c d e f (fun a0=>K [tI a0] none) (fun a0 a1 a2 a3 a4=>cL kk fun _=>NM R kk K a0 a1 a2 a3 a4):=by kernel_rfl
theorem aeY(a b:Int)(c:aD)(d e:ae):NM R kk K a b c d e=
 Uh a b c d e (UI R kk kk (zxd R kk K)):=by kernel_rfl
theorem amc(a b c:Int)(d:aD)(e f:ae):UI R kk (k+1) J a b c d e f=
 Rg a b c d e f (fun a0 a1 a2 a3 a4 a5=>cL kk fun _=>NN R kk k J a0 a1 a2 a3 a4 a5) (J (.exit 1) (zee)):=by kernel_rfl
theorem aeZ(a b c:Int)(d:aD)(e f:ae):NN R kk k J a b c d e f=
 Ui a b c d e f (fun a0=>J .ret (TW a0)) (fun a0 a1 a2 a3 a4 a5=>cL kk fun _=>NO R kk k J a0 a1 a2 a3 a4 a5):=by kernel_rfl
theorem ae2:zxd R kk K (.exit 1) (zee)=
 zpk (cL kk fun _=>UH R kk K):=by kernel_rfl
theorem ae3(a:Int):zxd R kk K .ret (TW a)=
 zpl a (fun a0=>K [tI a0] none):=by kernel_rfl
theorem ae0(a b c:Int)(d:aD)(e f:ae):NO R kk k J a b c d e f=
 Uj a b c d e f (fun a0=>J .ret (TW a0)) (fun a0 a1 a2 a3 a4 a5=>cL kk fun _=>NP R kk k J a0 a1 a2 a3 a4 a5):=by kernel_rfl
theorem ae1(a b c:Int)(d:aD)(e f:ae):NP R kk k J a b c d e f=
 Uk a b c d e f (UI R kk k J):=by kernel_rfl
theorem aiR{kk:Nat}(hF:kk=af)(t7 t8 t13:Int)(dq:aD)(cQ eG:ae):UI R kk k J t7 t8 t13 dq cQ eG=(wo k t7 t8 t13 dq cQ eG).bind fun e=>(Sum.elim (fun(we:Unit)=>J (.exit 1) (zee)) (fun(we:Int)=>J .ret (TW we)) e):=by
 induction k generalizing t7 t8 t13 dq cQ eG with
 |zero=>rfl
 |succ k ih=>
  rw[amc]
  simp only[wo,Rg,Ui,Uj,Uk,ih,aeZ,ae0,ae1,Qv (hF:=hF),aC]
def Au:ag:=b7.add 85 [cG,aK,aK] (lh cG aK aK tv (fun _ r K=>K [tI r] none))
theorem abM:aP Tryz.prog Au:=lA zw Tryz.f85 (fun R kk x0 x1 x2 K=>H0 x0 x1 x2 (fun a0 a1 a2 a3=>cL kk fun _=>O3 R kk K a0 a1 a2 a3)) abL ((ek _ _ _ _).join _) Tryz.func85 (by kernel_rfl) rfl (fun _ _ _ _ _ _ h=>h _ _) (fun _ _ _ _ _ _=>by kernel_rfl) fun R kk e x0 x1 x2 K=>by
 simp only[tv,acw,zxi,z160,zxj,acx,zxk,z162,zxl,acy,zxm,zpi,zpj,Uh,zpk,zpl,aiR (hF:=e),zxe,UJ,BR,Rs,zxf,Gv,zxg,Rt,UK,zxh,zph,Rf,aiH,aiI,aeX,aeY,aiJ,aiK,aiL,aiM,aiN,aiO,aiP,aiQ,ae2,ae3,Qv (hF:=e),aC,<-e]
def aom:Env:=e0 [cG,cG]
def iU:ag:=Au.add 86 [cG,cG] (dJ cG cG tA (fun _ r K=>K [tB r] none))
theorem abN:aP Tryz.prog iU:=dN aom Tryz.f86 (fun R kk x0 x1 K=>U1 x0 x1 (fun a0=>K [tB a0] none)) abM (ek _ _ _ _) Tryz.func86 (by kernel_rfl) rfl (fun _ _ _ _ _ _ h=>h _ _) (fun _ _ _ _ _=>by kernel_rfl) fun R kk e x0 x1 K=>by
 simp only[tA,U1,aC]
def wv:Env:=cc.env (fun i=>bif Nat.beq i 8 then [3,4,5,9] else bif Nat.beq i 19 then [3,4,5,13] else bif Nat.beq i 25 then [3,4,5,13,15] else []) (fun i=>bif Nat.beq i 8 then [3,4,5,6,7,8] else bif Nat.beq i 19 then [6,7,8] else bif Nat.beq i 25 then [3,4,5,6,7,8,13] else []) [] [ci,aK,aK]
def UO(a:Int)(b:aq)(c d:ae):Option R:=az (ev wv (iU R) kk (sub [1,1,1,1,0,1,0,0] (cd Tryz.f61))) [3,4,5,9] [3,4,5,6,7,8] k ⟨uS 3 ([.ptr 4 ci []]::[.ptr 5 aK []]::[.ptr 6 aK []]::uS 3 ([tI a]::uS 104 [])),nS 4 ((some ⟨ci,b,[]⟩)::(some ⟨aK,c,[]⟩)::(some ⟨aK,d,[]⟩)::nS 108 [])⟩ J
def zeh(a b c:Int)(d:aq)(e f:ae):State:=⟨uS 3 ([.ptr 4 ci []]::[.ptr 5 aK []]::[.ptr 6 aK []]::[tI a]::[tI b]::[tI c]::uS 105 []),nS 4 ((some ⟨ci,d,[]⟩)::(some ⟨aK,e,[]⟩)::(some ⟨aK,f,[]⟩)::nS 108 [])⟩
def zei(a:aq)(b c:ae):State:=⟨uS 3 ([.ptr 4 ci []]::[.ptr 5 aK []]::[.ptr 6 aK []]::uS 108 []),nS 4 ((some ⟨ci,a,[]⟩)::(some ⟨aK,b,[]⟩)::(some ⟨aK,c,[]⟩)::nS 108 [])⟩
def zxs:KX R:=(zk 0 (aU wv (iU R) kk (sub [1,1,1,1,1] (cd Tryz.f61)) (aS wv Tryz.f61.results.toList none K)))
def UP(a:Int)(b:aq)(c d:ae):Option R:=az (ev wv (iU R) kk (sub [1,1,1,1,1,1,0,1,0,0] (cd Tryz.f61))) [3,4,5,13] [6,7,8] k ⟨uS 3 ([.ptr 4 ci []]::[.ptr 5 aK []]::[.ptr 6 aK []]::uS 7 ([tI a]::uS 100 [])),nS 4 ((some ⟨ci,b,[]⟩)::(some ⟨aK,c,[]⟩)::(some ⟨aK,d,[]⟩)::nS 108 [])⟩ J
def TX(a b c:Int):State:=⟨uS 6 ([tI a]::[tI b]::[tI c]::uS 105 []),nS 115 []⟩
def zej:State:=⟨uS 114 [],nS 115 []⟩
def zxt:KX R:=(zk 2 (aU wv (iU R) kk (sub [1,1,1,1,1,1,1] (cd Tryz.f61)) (aS wv Tryz.f61.results.toList none K)))
def UQ(a b:Int)(c:aq)(d e:ae):Option R:=az (ev wv (iU R) kk (sub [1,1,1,1,1,1,0,1,0,0,1,0,0,1,1,0,0] (cd Tryz.f61))) [3,4,5,13,15] [3,4,5,6,7,8,13] k ⟨uS 3 ([.ptr 4 ci []]::[.ptr 5 aK []]::[.ptr 6 aK []]::uS 7 ([tI a]::uS 1 ([tI b]::uS 98 []))),nS 4 ((some ⟨ci,c,[]⟩)::(some ⟨aK,d,[]⟩)::(some ⟨aK,e,[]⟩)::nS 108 [])⟩ J
def zek(a b c d:Int)(e:aq)(f g:ae):State:=⟨uS 3 ([.ptr 4 ci []]::[.ptr 5 aK []]::[.ptr 6 aK []]::[tI a]::[tI b]::[tI c]::uS 4 ([tI d]::uS 100 [])),nS 4 ((some ⟨ci,e,[]⟩)::(some ⟨aK,f,[]⟩)::(some ⟨aK,g,[]⟩)::nS 108 [])⟩
def zel(a:Int)(b:aq)(c d:ae):State:=⟨uS 3 ([.ptr 4 ci []]::[.ptr 5 aK []]::[.ptr 6 aK []]::uS 7 ([tI a]::uS 100 [])),nS 4 ((some ⟨ci,b,[]⟩)::(some ⟨aK,c,[]⟩)::(some ⟨aK,d,[]⟩)::nS 108 [])⟩
def zxu:KX R:=(zk 4 (zk 3 (aU wv (iU R) kk (sub [1,1,1,1,1,1,0,1,0,0,1,1] (cd Tryz.f61)) (nO (ev wv (iU R) kk (sub [1,1,1,1,1,1,0,1,0,0] (cd Tryz.f61))) [3,4,5,13] [6,7,8] k J))))
theorem ame(a:Int)(b:aq)(c d:ae):UO R kk (k+1) J a b c d=
 Ru a b c d (fun a0 a1 a2 a3 a4 a5=>J .ret (zeh a0 a1 a2 a3 a4 a5)) (UO R kk k J) (fun a0 a1 a2=>J (.exit 0) (zei a0 a1 a2)):=by kernel_rfl
theorem ae6(a b c:Int)(d:aq)(e f:ae):zxs R kk K .ret (zeh a b c d e f)=
 zxv a b c d e f (fun a0 a1 a2=>K [tI a0,tI a1,tI a2] none):=by kernel_rfl
theorem ae7(a:aq)(b c:ae):zxs R kk K (.exit 0) (zei a b c)=
 US a b c (fun a0 a1 a2=>K [tI a0,tI a1,tI a2] none) (UP R kk kk (zxt R kk K)):=by kernel_rfl
theorem amf(a:Int)(b:aq)(c d:ae):UP R kk (k+1) J a b c d=
 Rv a b c d (fun a0 a1 a2=>J .ret (TX a0 a1 a2)) (UQ R kk kk (zxu R kk k J)) (J (.exit 2) (zej)):=by kernel_rfl
theorem ae8(a b c:Int):zxt R kk K .ret (TX a b c)=
 zxw a b c (fun a0 a1 a2=>K [tI a0,tI a1,tI a2] none):=by kernel_rfl
theorem ae9:zxt R kk K (.exit 2) (zej)=
 zxx (fun a0 a1 a2=>K [tI a0,tI a1,tI a2] none):=by kernel_rfl
theorem amg(a b:Int)(c:aq)(d e:ae):UQ R kk (k+1) J a b c d e=
 Rw a b c d e (fun a0 a1 a2 a3 a4 a5 a6=>J .ret (zek a0 a1 a2 a3 a4 a5 a6)) (UQ R kk k J) (fun a0 a1 a2 a3=>J (.exit 4) (zel a0 a1 a2 a3)):=by kernel_rfl
theorem afa(a b c d:Int)(e:aq)(f g:ae):zxu R kk k J .ret (zek a b c d e f g)=
 zxy a b c d e f g (fun a0 a1 a2=>J .ret (TX a0 a1 a2)):=by kernel_rfl
theorem afb(a:Int)(b:aq)(c d:ae):zxu R kk k J (.exit 4) (zel a b c d)=
 UT a b c d (UP R kk k J):=by kernel_rfl
theorem aiT{kk:Nat}(hF:kk=af)(t9:Int)(dq:aq)(cQ eG:ae):UO R kk k J t9 dq cQ eG=(Gx k t9 dq cQ eG).bind fun e=>(Sum.elim (fun(we:mu)=>J .ret (zeh we.1 we.2.1 we.2.2.1 we.2.2.2.1 we.2.2.2.2.1 we.2.2.2.2.2)) (fun(we:mr)=>J (.exit 0) (zei we.1 we.2.1 we.2.2)) e):=by
 induction k generalizing t9 dq cQ eG with
 |zero=>rfl
 |succ k ih=>
  rw[ame]
  simp only[Gx,Ru,ih,aC]
theorem aiV{kk:Nat}(hF:kk=af)(t13 t15:Int)(dq:aq)(cQ eG:ae):UQ R kk k J t13 t15 dq cQ eG=(Gz k t13 t15 dq cQ eG).bind fun e=>(Sum.elim (fun(we:(Int×Int×Int×Int×aq×ae×ae))=>J .ret (zek we.1 we.2.1 we.2.2.1 we.2.2.2.1 we.2.2.2.2.1 we.2.2.2.2.2.1 we.2.2.2.2.2.2)) (fun(we:(Int×aq×ae×ae))=>J (.exit 4) (zel we.1 we.2.1 we.2.2.1 we.2.2.2)) e):=by
 induction k generalizing t13 t15 dq cQ eG with
 |zero=>rfl
 |succ k ih=>
  rw[amg]
  simp only[Gz,Rw,ih,aC]
theorem aiU{kk:Nat}(hF:kk=af)(t13:Int)(dq:aq)(cQ eG:ae):UP R kk k J t13 dq cQ eG=(Gy k t13 dq cQ eG).bind fun e=>(Sum.elim (fun(we:jW)=>J .ret (TX we.1 we.2.1 we.2.2)) (fun(we:Unit)=>J (.exit 2) (zej)) e):=by
 induction k generalizing t13 dq cQ eG with
 |zero=>rfl
 |succ k ih=>
  rw[amf]
  simp only[Gy,Rv,zxy,UT,ih,aiV (hF:=hF),afa,afb,aC,<-hF]
def qO:ag:=iU.add 61 [ci,aK,aK] (lh ci aK aK tw (fun _ r K=>K [tI r.1,tI r.2.1,tI r.2.2] none))
theorem abO:aP Tryz.prog qO:=lA wv Tryz.f61 (fun R kk x0 x1 x2 K=>UR x0 x1 x2 (fun a0 a1 a2=>K [tI a0,tI a1,tI a2] none) (UO R kk kk (zxs R kk K))) abN (ek _ _ _ _) Tryz.func61 (by kernel_rfl) rfl (fun _ _ _ _ _ _ h=>h _ _) (fun _ _ _ _ _ _=>by kernel_rfl) fun R kk e x0 x1 x2 K=>by
 simp only[tw,UR,zxv,US,zxw,zxx,aiT (hF:=e),aiU (hF:=e),ae6,ae7,ae8,ae9,aC,<-e]
def XS:Env:=cc.env (fun i=>bif Nat.beq i 4 then [1,5] else []) (fun i=>bif Nat.beq i 4 then [2,3,4] else []) [] [bF]
def Vf(a:Int)(b:ar):Option R:=az (ev XS (qO R) kk (sub [1,1,0,1,0,0] (cd Tryz.f41))) [1,5] [2,3,4] k ⟨uS 1 ([.ptr 2 bF []]::uS 3 ([tI a]::uS 56 [])),nS 2 ((some ⟨bF,b,[]⟩)::nS 60 [])⟩ J
def zf0(a b c:Int):State:=⟨uS 2 ([tI a]::[tI b]::[tI c]::uS 57 []),nS 63 []⟩
def zf1:State:=⟨uS 62 [],nS 63 []⟩
def zyq:KX R:=(zk 0 (aU XS (qO R) kk (sub [1,1,1] (cd Tryz.f41)) (aS XS Tryz.f41.results.toList none K)))
theorem amp(a:Int)(b:ar):Vf R kk (k+1) J a b=
 H6 a b (fun a0 a1 a2=>J .ret (zf0 a0 a1 a2)) (Vf R kk k J) (J (.exit 0) (zf1)):=by kernel_rfl
theorem afq(a b c:Int):zyq R kk K .ret (zf0 a b c)=
 zyr a b c (fun a0 a1 a2=>K [tI a0,tI a1,tI a2] none):=by kernel_rfl
theorem afr:zyq R kk K (.exit 0) (zf1)=
 zys (fun a0 a1 a2=>K [tI a0,tI a1,tI a2] none):=by kernel_rfl
theorem ai4{kk:Nat}(hF:kk=af)(t5:Int)(cV:ar):Vf R kk k J t5 cV=(GG k t5 cV).bind fun e=>(Sum.elim (fun(we:jW)=>J .ret (zf0 we.1 we.2.1 we.2.2)) (fun(we:Unit)=>J (.exit 0) (zf1)) e):=by
 induction k generalizing t5 cV with
 |zero=>rfl
 |succ k ih=>
  rw[amp]
  simp only[GG,H6,ih,aC]
def Av:ag:=qO.add 41 [bF] (cN bF tE (fun _ r K=>K [tI r.1,tI r.2.1,tI r.2.2] none))
theorem abP:aP Tryz.prog Av:=cP XS Tryz.f41 (fun R kk x0 K=>Vg x0 (fun a0 a1 a2=>K [tI a0,tI a1,tI a2] none) (Vf R kk kk (zyq R kk K))) abO (ek _ _ _ _) Tryz.func41 (by kernel_rfl) rfl (fun _ _ _ _ _ _ h=>h _ _) (fun _ _ _ _=>by kernel_rfl) fun R kk e x0 K=>by
 simp only[tE,Vg,zyr,zys,ai4 (hF:=e),afq,afr,aC,<-e]
def aos:Env:=e0 [bF]
def Aw:ag:=Av.add 14 [bF] (cN bF oF (fun _ r K=>K [tB r] none))
theorem abQ:aP Tryz.prog Aw:=cP aos Tryz.f14 (fun R kk x0 K=>Vj x0 (fun a0=>K [tB a0] none)) abP (ek _ _ _ _) Tryz.func14 (by kernel_rfl) rfl (fun _ _ _ _ _ _ h=>h _ _) (fun _ _ _ _=>by kernel_rfl) fun R kk e x0 K=>by
 simp only[oF,Vj,aC]
def aok:Env:=e0 [(.sl 109 (.pair .str (.pair .str .unit)))]
def Ax:ag:=Aw.add 57 [(.sl 109 (.pair .str (.pair .str .unit)))] (cN (.sl 109 (.pair .str (.pair .str .unit))) rC (fun _ r K=>K [.aj (.sl 109 (.pair .str (.pair .str .unit))) r [[]]] none))
theorem abR:aP Tryz.prog Ax:=cP aok Tryz.f57 (fun R kk x0 K=>UC x0 (fun a0=>K [.aj (.sl 109 (.pair .str (.pair .str .unit))) a0 [[]]] none)) abQ (ek _ _ _ _) Tryz.func57 (by kernel_rfl) rfl (fun _ _ _ _ _ _ h=>h _ _) (fun _ _ _ _=>by kernel_rfl) fun R kk e x0 K=>by
 simp only[rC,UC,aC]
def aol:Env:=cc.env (fun _=>[]) (fun _=>[]) [2] [cG]
def qP:ag:=Ax.add 58 [cG] (cN cG oE (fun _ r K=>K [.aj cG r [[4]]] none))
theorem abS:aP Tryz.prog qP:=cP aol Tryz.f58 (fun R kk x0 K=>UL x0 (fun a0=>K [.aj cG a0 [[4]]] none)) abR (ek _ _ _ _) Tryz.func58 (by kernel_rfl) rfl (fun _ _ _ _ _ _ h=>h _ _) (fun _ _ _ _=>by kernel_rfl) fun R kk e x0 K=>by
 simp only[oE,UL,aC]
def XM:Env:=cc.env (fun i=>bif Nat.beq i 3 then [1,2,3,4] else []) (fun i=>bif Nat.beq i 3 then [2,3] else []) [2] [ci]
def UU(a:Int)(b c d:aq):Option R:=az (ev XM (qP R) kk (sub [1,1,0,1,0,0] (cd Tryz.f39))) [1,2,3,4] [2,3] k ⟨uS 1 ([.ptr 2 ci []]::[.ptr 3 ci []]::[.ptr 4 ci []]::[tI a]::uS 23 []),nS 2 ((some ⟨ci,b,[]⟩)::(some ⟨ci,c,[[0],[1]]⟩)::(some ⟨ci,d,[[0],[1]]⟩)::nS 24 [])⟩ J
def zem(a b:aq):State:=⟨uS 2 ([.ptr 3 ci []]::[.ptr 4 ci []]::uS 24 []),nS 3 ((some ⟨ci,a,[[0],[1]]⟩)::(some ⟨ci,b,[[0],[1]]⟩)::nS 24 [])⟩
def Pc:KX R:=(zk 0 (aU XM (qP R) kk (sub [1,1,1] (cd Tryz.f39)) (aS XM Tryz.f39.results.toList none K)))
theorem amh(a:Int)(b c d:aq):UU R kk (k+1) J a b c d=
 zxz a b c d (UU R kk k J) (fun a0 a1=>J (.exit 0) (zem a0 a1)):=by kernel_rfl
theorem afc(a b:aq):Pc R kk K (.exit 0) (zem a b)=
 zy0 a b (fun a0=>K [.aj ci a0 [[0],[1]]] none):=by kernel_rfl
theorem aiW{kk:Nat}(hF:kk=af)(t4:Int)(cV dD dq:aq):UU R kk k J t4 cV dD dq=(Rx k t4 cV dD dq).bind fun e=>J (.exit 0) (zem e.1 e.2):=by
 induction k generalizing t4 cV dD dq with
 |zero=>rfl
 |succ k ih=>
  rw[amh]
  simp only[Rx,zxz,ih,aC]
def Ay:ag:=qP.add 39 [ci] (cN ci tz (fun _ r K=>K [.aj ci r [[0],[1]]] none))
theorem abT:aP Tryz.prog Ay:=cP XM Tryz.f39 (fun R kk x0 K=>UW x0 (UU R kk kk (Pc R kk K))) abS (ek _ _ _ _) Tryz.func39 (by kernel_rfl) rfl (fun _ _ _ _ _ _ h=>h _ _) (fun _ _ _ _=>by kernel_rfl) fun R kk e x0 K=>by
 simp only[tz,UW,zy0,aiW (hF:=e),afc,aC,<-e]
def JQ:Env:=cc.env (fun _=>[]) (fun _=>[]) [2] [aK]
def Az:ag:=Ay.add 59 [aK] (cN aK JP (fun _ r K=>K [.aj aK r [[2]]] none))
theorem abU:aP Tryz.prog Az:=cP JQ Tryz.f59 (fun R kk x0 K=>ZA x0 (fun a0=>K [.aj aK a0 [[2]]] none)) abT (ek _ _ _ _) Tryz.func59 (by kernel_rfl) rfl (fun _ _ _ _ _ _ h=>h _ _) (fun _ _ _ _=>by kernel_rfl) fun R kk e x0 K=>by
 simp only[JP,ZA,aC]
def aoo:Env:=cc.env (fun _=>[]) (fun _=>[]) [2] [cB]
def qQ:ag:=Az.add 40 [cB] (cN cB tD (fun _ r K=>K [.aj cB r [[3],[2],[0,2]]] none))
theorem abV:aP Tryz.prog qQ:=cP aoo Tryz.f40 (fun R kk x0 K=>Va x0 (fun a0=>K [.aj cB a0 [[3],[2],[0,2]]] none)) abU (ek _ _ _ _) Tryz.func40 (by kernel_rfl) rfl (fun _ _ _ _ _ _ h=>h _ _) (fun _ _ _ _=>by kernel_rfl) fun R kk e x0 K=>by
 simp only[tD,Va,aC]
def XT:Env:={cc.env (fun i=>bif Nat.beq i 2 then [1,2,3] else []) (fun i=>bif Nat.beq i 2 then [1,2] else []) [2] [bF] with sh:=[20]}
def Vh(a:Int)(b c:ar):Option R:=az (ev XT (qQ R) kk (sub [1,0,1,0,0] (cd Tryz.f13))) [1,2,3] [1,2] k ⟨uS 1 ([.ptr 2 bF []]::[.ptr 3 bF []]::[tI a]::uS 25 []),nS 2 ((some ⟨bF,b,[]⟩)::(some ⟨bF,c,[]⟩)::nS 26 [])⟩ J
def zf2(a b:ar):State:=⟨uS 1 ([.ptr 2 bF []]::[.ptr 3 bF []]::uS 26 []),nS 2 ((some ⟨bF,a,[]⟩)::(some ⟨bF,b,[]⟩)::nS 26 [])⟩
def Pe:KX R:=(zk 0 (aU XT (qQ R) kk (sub [1,1] (cd Tryz.f13)) (aS XT Tryz.f13.results.toList none K)))
theorem amq(a:Int)(b c:ar):Vh R kk (k+1) J a b c=
 H7 a b c (Vh R kk k J) (fun a0 a1=>J (.exit 0) (zf2 a0 a1)):=by kernel_rfl
theorem afs(a b:ar):Pe R kk K (.exit 0) (zf2 a b)=
 zyt a b (fun a0=>K [.aj bF a0 []] none):=by kernel_rfl
theorem ai5{kk:Nat}(hF:kk=af)(t3:Int)(cV dD:ar):Vh R kk k J t3 cV dD=(GH k t3 cV dD).bind fun e=>J (.exit 0) (zf2 e.1 e.2):=by
 induction k generalizing t3 cV dD with
 |zero=>rfl
 |succ k ih=>
  rw[amq]
  simp only[GH,H7,ih,aC]
def AA:ag:=qQ.add 13 [bF] (cN bF tF (fun _ r K=>K [.aj bF r []] none))
theorem abW:aP Tryz.prog AA:=cP XT Tryz.f13 (fun R kk x0 K=>Vi x0 (Vh R kk kk (Pe R kk K))) abV ((ek _ _ _ _).sh _) Tryz.func13 (by kernel_rfl) rfl (fun _ _ _ _ _ _ h=>h _ _) (fun _ _ _ _=>by kernel_rfl) fun R kk e x0 K=>by
 simp only[tF,Vi,zyt,ai5 (hF:=e),afs,aC,<-e]
def Jy:Env:=e0 [bF,(.sl 57 (.pair (.int .i64) (.pair .str .unit))),(.int .i64)]
def qR:ag:=AA.add 18 [bF,(.sl 57 (.pair (.int .i64) (.pair .str .unit))),(.int .i64)] (lh bF (.sl 57 (.pair (.int .i64) (.pair .str .unit))) (.int .i64) Ch (fun _ r K=>(Sum.elim (fun(wr:Unit)=>K [.eh,tB false] none) (fun(wr:(Bool×(ar×(Option ah×Option ah)×Int)))=>K [.ptr 0 (.aF .bC bF y6) [],tB wr.1] (some ⟨(.aF .bC bF y6),wr.2,[[],[0],[0,2],[1],[1,2]]⟩)) r)))
theorem abX:aP Tryz.prog qR:=lA Jy Tryz.f18 (fun R kk x0 x1 x2 K=>Zd x0 x1 x2 (K [.eh,tB false] none) (fun a0 a1=>K [.ptr 0 (.aF .bC bF y6) [],tB a0] (some ⟨(.aF .bC bF y6),a1,[[],[0],[0,2],[1],[1,2]]⟩))) abW (ek _ _ _ _) Tryz.func18 (by kernel_rfl) rfl (fun _ _ _ _ _ _ h=>Sf (fun _=>h _ _) (fun _=>h _ _)) (fun _ _ _ _ _ _=>by kernel_rfl) fun R kk e x0 x1 x2 K=>by
 simp only[Ch,Zd,aC]
def XY:Env:=cc.env (fun i=>bif Nat.beq i 3 then [0,3,4] else []) (fun i=>bif Nat.beq i 3 then [3] else []) [] [(.sl 9 .str)]
def Vr(a:(List ByteArray))(b:ByteArray)(c:Int):Option R:=az (ev XY (qR R) kk (sub [1,1,0,1,0,0] (cd Tryz.f27))) [0,3,4] [3] k ⟨[.aj (.sl 9 .str) a []]::uS 2 ([tS b]::[tI c]::uS 13 []),nS 19 []⟩ J
def zf7(a:ByteArray):State:=⟨uS 3 ([tS a]::uS 14 []),nS 19 []⟩
def Ph:KX R:=(zk 0 (aU XY (qR R) kk (sub [1,1,1] (cd Tryz.f27)) (aS XY Tryz.f27.results.toList none K)))
theorem amu(a:(List ByteArray))(b:ByteArray)(c:Int):Vr R kk (k+1) J a b c=
 RC a b c (Vr R kk k J) (fun a0=>J (.exit 0) (zf7 a0)):=by kernel_rfl
theorem afy(a:ByteArray):Ph R kk K (.exit 0) (zf7 a)=
 Vt a (fun a0=>K [tS a0] none):=by kernel_rfl
theorem ai9{kk:Nat}(hF:kk=af)(fQ:(List ByteArray))(t3:ByteArray)(t4:Int):Vr R kk k J fQ t3 t4=(GJ k fQ t3 t4).bind fun e=>J (.exit 0) (zf7 e):=by
 induction k generalizing fQ t3 t4 with
 |zero=>rfl
 |succ k ih=>
  rw[amu]
  simp only[GJ,RC,ih,aC]
def qS:ag:=qR.add 27 [(.sl 9 .str)] (cN (.sl 9 .str) tK (fun _ r K=>K [tS r] none))
theorem abY:aP Tryz.prog qS:=cP XY Tryz.f27 (fun R kk x0 K=>Vs x0 (Vr R kk kk (Ph R kk K))) abX (ek _ _ _ _) Tryz.func27 (by kernel_rfl) rfl (fun _ _ _ _ _ _ h=>h _ _) (fun _ _ _ _=>by kernel_rfl) fun R kk e x0 K=>by
 simp only[tK,Vs,Vt,ai9 (hF:=e),afy,aC,<-e]
def XZ:Env:={cc.env (fun i=>bif Nat.beq i 4 then [0,1,8,9,10] else []) (fun i=>bif Nat.beq i 4 then [1,4,5,6,7,8,9,10] else []) [] [(.int .i64),.str] with mv:=[37,38,48,53,73,78]}
def Vv(a:Int)(b:ByteArray)(c:(List ByteArray))(d:(List Int))(e:Int):Option R:=az (ev XZ (qS R) kk (sub [1,1,1,1,0,0,0] (cd Tryz.f31))) [0,1,8,9,10] [1,4,5,6,7,8,9,10] k ⟨[tI a]::[tS b]::uS 6 ([.aj (.sl 9 .str) c [[]]]::[.aj (.sl 3 (.int .i64)) d [[]]]::[tI e]::uS 68 []),nS 80 []⟩ J
def zf8(a:ByteArray)(b:(List ByteArray))(c:Int)(d:(List Int))(e:Int)(f:(List ByteArray))(g:(List Int))(h:Int):State:=⟨uS 1 ([tS a]::uS 2 ([.aj (.sl 9 .str) b [[]]]::[tI c]::[.aj (.sl 3 (.int .i64)) d [[]]]::[tI e]::[.aj (.sl 9 .str) f []]::[.aj (.sl 3 (.int .i64)) g []]::[tI h]::uS 68 [])),nS 80 []⟩
def zf9(a:ByteArray)(b:(List ByteArray))(c:(List Int))(d:Int):State:=⟨uS 1 ([tS a]::uS 6 ([.aj (.sl 9 .str) b [[]]]::[.aj (.sl 3 (.int .i64)) c [[]]]::[tI d]::uS 68 [])),nS 80 []⟩
def zz5:KX R:=(zk 0 (aU XZ (qS R) kk (sub [1,1,1,1,1] (cd Tryz.f31)) (aS XZ Tryz.f31.results.toList none K)))
theorem amv(a:Int)(b:ByteArray)(c:(List ByteArray))(d:(List Int))(e:Int):Vv R kk (k+1) J a b c d e=
 Vx a b c d e (fun a0 a1 a2 a3 a4 a5 a6 a7=>J .ret (zf8 a0 a1 a2 a3 a4 a5 a6 a7)) (Vv R kk k J) (fun a0 a1 a2 a3=>J (.exit 0) (zf9 a0 a1 a2 a3)):=by kernel_rfl
theorem afz(a:ByteArray)(b:(List ByteArray))(c:Int)(d:(List Int))(e:Int)(f:(List ByteArray))(g:(List Int))(h:Int):zz5 R kk K .ret (zf8 a b c d e f g h)=
 zz6 a b c d e f g h (fun a0 a1 a2 a3=>K [.aj (.sl 9 .str) a0 [[]],tI a1,.aj (.sl 3 (.int .i64)) a2 [[]],tI a3] none):=by kernel_rfl
theorem afA(a:ByteArray)(b:(List ByteArray))(c:(List Int))(d:Int):zz5 R kk K (.exit 0) (zf9 a b c d)=
 zz7 a b c d (fun a0 a1 a2 a3=>K [.aj (.sl 9 .str) a0 [[]],tI a1,.aj (.sl 3 (.int .i64)) a2 [[]],tI a3] none):=by kernel_rfl
theorem aja{kk:Nat}(hF:kk=af)(pg:Int)(j5:ByteArray)(t8:(List ByteArray))(t9:(List Int))(t10:Int):Vv R kk k J pg j5 t8 t9 t10=(H8 k pg j5 t8 t9 t10).bind fun e=>(Sum.elim (fun(we:(ByteArray×(List ByteArray)×Int×(List Int)×Int×(List ByteArray)×(List Int)×Int))=>J .ret (zf8 we.1 we.2.1 we.2.2.1 we.2.2.2.1 we.2.2.2.2.1 we.2.2.2.2.2.1 we.2.2.2.2.2.2.1 we.2.2.2.2.2.2.2)) (fun(we:(ByteArray×(List ByteArray)×(List Int)×Int))=>J (.exit 0) (zf9 we.1 we.2.1 we.2.2.1 we.2.2.2)) e):=by
 induction k generalizing pg j5 t8 t9 t10 with
 |zero=>rfl
 |succ k ih=>
  rw[amv]
  simp only[H8,Vx,ih,aC]
def AB:ag:=qS.add 31 [(.int .i64),.str] (dJ (.int .i64) .str tL (fun _ r K=>K [.aj (.sl 9 .str) r.1 [[]],tI r.2.1,.aj (.sl 3 (.int .i64)) r.2.2.1 [[]],tI r.2.2.2] none))
theorem abZ:aP Tryz.prog AB:=dN XZ Tryz.f31 (fun R kk x0 x1 K=>Vw x0 x1 (Vv R kk kk (zz5 R kk K))) abY ((ek _ _ _ _).mv _) Tryz.func31 (by kernel_rfl) rfl (fun _ _ _ _ _ _ h=>h _ _) (fun _ _ _ _ _=>by kernel_rfl) fun R kk e x0 x1 K=>by
 simp only[tL,Vw,zz6,zz7,aja (hF:=e),afz,afA,aC,<-e]
def aou:Env:=e0 [.str]
def lL:ag:=AB.add 32 [.str] (cN .str rH (fun _ r K=>K [tS r] none))
theorem ab0:aP Tryz.prog lL:=cP aou Tryz.f32 (fun R kk x0 K=>Vu x0 (fun a0=>K [tS a0] none)) abZ (ek _ _ _ _) Tryz.func32 (by kernel_rfl) rfl (fun _ _ _ _ _ _ h=>h _ _) (fun _ _ _ _=>by kernel_rfl) fun R kk e x0 K=>by
 simp only[rH,Vu,aC]
def kp:Env:={cc.env (fun i=>bif Nat.beq i 11 then [0,3,4,6,8,29,44,53,54,55] else bif Nat.beq i 20 then [6,15,44,83,84,85] else []) (fun i=>bif Nat.beq i 11 then [0,3,4,6,8,29,44] else bif Nat.beq i 20 then [2] else []) [] [(.sl 9 .str)] with sh:=[65]}
def Y9(a:(List ByteArray))(b:ap)(c d:Bool)(e:(List ByteArray))(f g:Int)(h:ar)(i j:(ar×(Option ah×Option ah)×Int)):Option R:=az (ev kp (lL R) kk (sub [1,1,1,1,1,1,1,1,0,1,0,0] (cd Tryz.f9))) [0,3,4,6,8,29,44,53,54,55] [0,3,4,6,8,29,44] k ⟨[.aj (.sl 9 .str) a []]::uS 2 ([.ptr 4 bF []]::[.ptr 30 (.aF .bC bF y6) []]::uS 1 ([.ptr 45 (.aF .bC bF y6) []]::uS 1 ([.aj (.sl 57 (.pair (.int .i64) (.pair .str .unit))) b [[]]]::uS 20 ([.ptr 30 (.aF .bC bF y6) [],tB c]::uS 14 ([.ptr 45 (.aF .bC bF y6) [],tB d]::uS 8 ([.aj (.sl 9 .str) e []]::[tI f]::[tI g]::uS 62 [])))))),nS 4 ((some ⟨bF,h,[]⟩)::nS 25 ((some ⟨(.aF .bC bF y6),i,[[],[0],[0,2],[1],[1,2]]⟩)::nS 14 ((some ⟨(.aF .bC bF y6),j,[[],[0],[0,2],[1],[1,2]]⟩)::nS 73 [])))⟩ J
def zq3(a:(List ByteArray))(b:ap)(c d:Bool)(e:ar)(f g:(ar×(Option ah×Option ah)×Int)):State:=⟨[.aj (.sl 9 .str) a []]::uS 2 ([.ptr 4 bF []]::[.ptr 30 (.aF .bC bF y6) []]::uS 1 ([.ptr 45 (.aF .bC bF y6) []]::uS 1 ([.aj (.sl 57 (.pair (.int .i64) (.pair .str .unit))) b [[]]]::uS 20 ([.ptr 30 (.aF .bC bF y6) [],tB c]::uS 14 ([.ptr 45 (.aF .bC bF y6) [],tB d]::uS 73 []))))),nS 4 ((some ⟨bF,e,[]⟩)::nS 25 ((some ⟨(.aF .bC bF y6),f,[[],[0],[0,2],[1],[1,2]]⟩)::nS 14 ((some ⟨(.aF .bC bF y6),g,[[],[0],[0,2],[1],[1,2]]⟩)::nS 73 [])))⟩
def Qh:KX R:=(zk 0 (aU kp (lL R) kk (sub [1,1,1,1,1,1,1,1,1] (cd Tryz.f9)) (aS kp Tryz.f9.results.toList none K)))
end
end Go.Proofs.YtpjkbbihjoflnaaGreatDoor

namespace Go.Proofs.YtpjkbbihjoflnaaGreatDoor
noncomputable section
open Go Go.Ref bj
variable (R:Type) (kk k:Nat) (K:KF R) (J:KX R)
def Za(a:bY)(b:Bool)(c:(List ByteArray))(d e:Int)(f:(ar×(Option ah×Option ah)×Int)):Option R:=az (ev kp (lL R) kk (sub [1,1,1,1,1,1,1,1,1,1,1,1,0,1,0,0] (cd Tryz.f9))) [6,15,44,83,84,85] [2] k ⟨uS 6 ([.ptr 45 (.aF .bC bF y6) []]::uS 8 ([.aj (.sl 71 y9) a []]::uS 28 ([.ptr 45 (.aF .bC bF y6) [],tB b]::uS 38 ([.aj (.sl 9 .str) c []]::[tI d]::[tI e]::uS 32 [])))),nS 45 ((some ⟨(.aF .bC bF y6),f,[[],[0],[0,2],[1],[1,2]]⟩)::nS 73 [])⟩ J
def zq4(a:Bool):State:=⟨uS 2 ([tB a]::uS 115 []),nS 119 []⟩
def zq5:State:=⟨uS 118 [],nS 119 []⟩
def Ft:KX R:=(zk 2 (aU kp (lL R) kk (sub [1,1,1,1,1,1,1,1,1,1,1,1,1] (cd Tryz.f9)) (aS kp Tryz.f9.results.toList none K)))
theorem apj(a:(List ByteArray))(b:ap)(c d:Bool)(e:(List ByteArray))(f g:Int)(h:ar)(i j:(ar×(Option ah×Option ah)×Int)):Y9 R kk (k+1) J a b c d e f g h i j=
 Fu a b c d e f g h i j (Y9 R kk k J) (fun a0 a1 a2 a3 a4 a5 a6=>J (.exit 0) (zq3 a0 a1 a2 a3 a4 a5 a6)):=by kernel_rfl
theorem ajZ(a:(List ByteArray))(b:ap)(c d:Bool)(e:ar)(f g:(ar×(Option ah×Option ah)×Int)):Qh R kk K (.exit 0) (zq3 a b c d e f g)=
 Zc a b c d e f g (fun a0=>K [tB a0] none) (Za R kk kk (Ft R kk K)):=by kernel_rfl
theorem apk(a:bY)(b:Bool)(c:(List ByteArray))(d e:Int)(f:(ar×(Option ah×Option ah)×Int)):Za R kk (k+1) J a b c d e f=
 Sv a b c d e f (Za R kk k J) (fun a0=>J .ret (zq4 a0)) (J (.exit 2) (zq5)):=by kernel_rfl
theorem aj0(a:Bool):Ft R kk K .ret (zq4 a)=
 z171 a (fun a0=>K [tB a0] none):=by kernel_rfl
theorem aj1:Ft R kk K (.exit 2) (zq5)=
 Fv (fun a0=>K [tB a0] none):=by kernel_rfl
theorem ani{kk:Nat}(hF:kk=af)(ky:(List ByteArray))(t8:ap)(vu kU:Bool)(t53:(List ByteArray))(t54 t55:Int)(dq:ar)(cQ ix:(ar×(Option ah×Option ah)×Int)):Y9 R kk k J ky t8 vu kU t53 t54 t55 dq cQ ix=(Su k ky t8 vu kU t53 t54 t55 dq cQ ix).bind fun e=>J (.exit 0) (zq3 e.1 e.2.1 e.2.2.1 e.2.2.2.1 e.2.2.2.2.1 e.2.2.2.2.2.1 e.2.2.2.2.2.2):=by
 induction k generalizing ky t8 vu kU t53 t54 t55 dq cQ ix with
 |zero=>rfl
 |succ k ih=>
  rw[apj]
  simp only[Su,Fu,ih,aC]
theorem anj{kk:Nat}(hF:kk=af)(t15:bY)(kU:Bool)(t83:(List ByteArray))(t84 t85:Int)(ix:(ar×(Option ah×Option ah)×Int)):Za R kk k J t15 kU t83 t84 t85 ix=(BZ k t15 kU t83 t84 t85 ix).bind fun e=>(Sum.elim (fun(we:Bool)=>J .ret (zq4 we)) (fun(we:Unit)=>J (.exit 2) (zq5)) e):=by
 induction k generalizing t15 kU t83 t84 t85 ix with
 |zero=>rfl
 |succ k ih=>
  rw[apk]
  simp only[BZ,Sv,ih,aC]
def AD:ag:=lL.add 9 [(.sl 9 .str)] (cN (.sl 9 .str) Jw (fun _ r K=>K [tB r] none))
theorem ab1:aP Tryz.prog AD:=cP kp Tryz.f9 (fun R kk x0 K=>Zb x0 (fun a0=>K [tB a0] none) (Y9 R kk kk (Qh R kk K))) ab0 ((ek _ _ _ _).sh _) Tryz.func9 (by kernel_rfl) rfl (fun _ _ _ _ _ _ h=>h _ _) (fun _ _ _ _=>by kernel_rfl) fun R kk e x0 K=>by
 simp only[Jw,Zb,Zc,z171,Fv,ani (hF:=e),anj (hF:=e),ajZ,aj0,aj1,aC,<-e]
end
end Go.Proofs.YtpjkbbihjoflnaaGreatDoor

