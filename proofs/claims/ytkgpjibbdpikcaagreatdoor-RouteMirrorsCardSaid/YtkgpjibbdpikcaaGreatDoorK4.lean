/- No condition. -/
import Derived.Test.YtkgpjibbdpikcaaGreatDoorK3
import Derived.Test.YtkgpjibbdpikcaaGreatDoorProg
set_option linter.unusedVariables false
set_option linter.unusedSimpArgs false
set_option maxRecDepth 100000
namespace Go.Proofs.YtkgpjibbdpikcaaGreatDoor
noncomputable section
open Go Go.Ref Groat
abbrev y0:Go.Ref.Ty:=(.pair (.sl 116 (.pair .str (.pair .str .unit))) .unit)
abbrev y1:Go.Ref.Ty:=(.pair (.sl 96 (.pair (.int .i64) (.pair .str .unit))) .unit)
abbrev y2:Go.Ref.Ty:=(.pair (.sl 90 (.pair (.int .i64) (.pair .str .unit))) .unit)
abbrev y3:Go.Ref.Ty:=(.pair (.int .i64) (.pair (.int .i64) (.pair (.int .i64) .unit)))
abbrev y4:Go.Ref.Ty:=(.pair .str y0)
abbrev y5:Go.Ref.Ty:=(.pair .str y2)
abbrev y6:Go.Ref.Ty:=(.pair (.int .i64) y3)
abbrev y7:Go.Ref.Ty:=(.pair (.int .i64) y4)
abbrev y8:Go.Ref.Ty:=(.pair (.sl 3 (.int .i64)) y1)
abbrev y9:Go.Ref.Ty:=(.pair (.int .i64) y6)
abbrev y10:Go.Ref.Ty:=(.pair (.int .i64) y7)
abbrev y11:Go.Ref.Ty:=(.pair (.sl 87 y9) .unit)
abbrev y12:Go.Ref.Ty:=(.pair (.int .i64) y10)
abbrev y13:Go.Ref.Ty:=(.pair (.int .i64) y11)
abbrev y14:Go.Ref.Ty:=(.pair (.sl 59 y12) .unit)
abbrev y15:Go.Ref.Ty:=(.pair (.int .i64) y13)
abbrev y16:Go.Ref.Ty:=(.pair (.sl 116 (.pair .str (.pair .str .unit))) y14)
abbrev y17:Go.Ref.Ty:=(.pair y16 y8)
abbrev y18:Go.Ref.Ty:=(.pair y15 y17)
abbrev y19:Go.Ref.Ty:=(.pair (.arr 2 y18) (.pair (.int .i64) .unit))
def tys:List (Option Ty):=[none,none,some (.int .i64),some (.int .i64),some .bool,some (.int .u8),some (.int .u8),some (.pair (.int .i64) (.pair (.int .i64) (.pair .bool (.pair (.int .u8) .unit)))),some (.pair (.int .i64) (.pair (.int .i64) (.pair .bool (.pair (.int .u8) .unit)))),some .str,some .str,some .str,some (.int .u64),none,none,none,none,none,none,none,none,some (.int .i32),some (.sl 87 y9),some y15,some y15,some (.sl 116 (.pair .str (.pair .str .unit))),some (.sl 59 y12),some y16,some y16,some (.sl 3 (.int .i64)),some (.sl 96 (.pair (.int .i64) (.pair .str .unit))),some y18,some y18,some (.arr 2 y18),some y19,some y19,none,none,some (.int .i64),none,none,none,none,none,none,none,none,some (.sl 90 (.pair (.int .i64) (.pair .str .unit))),some y5,some y5,none,none,none,none,none,none,none,none,some y12,some y12,none,none,none,none,none,none,none,none,none,some (.pair (.int .i64) (.pair (.int .i64) .unit)),some (.pair (.int .i64) (.pair (.int .i64) .unit)),none,none,none,none,none,none,none,none,none,none,none,none,none,none,none,some y9,some y9,none,some (.pair (.int .i64) (.pair .str .unit)),some (.pair (.int .i64) (.pair .str .unit)),none,none,none,none,some (.pair (.int .i64) (.pair .str .unit)),some (.pair (.int .i64) (.pair .str .unit)),none,none,none,none,some (.int .u64),some (.pair (.int .u64) (.pair (.int .u64) .unit)),some (.pair (.int .u64) (.pair (.int .u64) .unit)),none,none,none,none,none,none,none,some (.sl 9 .str),none,none,none,some (.pair .str (.pair .str .unit)),some (.pair .str (.pair .str .unit)),none,none,none,none,none,none,none,some (.sl 24 y15),none,none,none,none,none,none,none,none,none,none,none,none,none,none,none,none,none,none,none,none,some (.sl 5 (.int .u8)),none,none,none,none,none,none,none,none,none,none,none,none,none,none,none,none,none,none,none,none,none,none,none,none,none,none,none,none,none,none,none,none,none,none,none,none,none,none,none,none,some (.sl 38 (.int .i64)),some (.sl 29 (.sl 3 (.int .i64))),none,none,none,none,none,none,none,none,none,none,none,none,none,none,some (.sl 245 (.pair (.int .i64) (.pair .str .unit))),none,none,none,none,none,none,none,none,none,none,some (.arr 8 (.int .u8)),none,none,none,none,none,none,none,none,none,none,none,none,none,none,none,none,none,none,none,none,none,none,none,none,none,none,none,none,none,none,some (.pair (.int .i64) (.pair .str .unit)),some (.pair (.int .i64) (.pair .str .unit)),none,none,some (.int .u64),none,none,none,none,none,none,none,none,none,none,none,none,some (.arr 256 .bool),some (.arr 256 .bool),none,none,none,none,some (.int .u32),none,none,none,none,none,none,none,none,some (.arr 256 (.int .u8)),some (.pair (.int .u8) (.pair (.int .u8) .unit)),some (.pair (.int .u8) (.pair (.int .u8) .unit)),some (.arr 16 (.pair (.int .u8) (.pair (.int .u8) .unit))),none,none,none,none,none,none,none,none,some (.int .u8),some (.int .u8),none,some (.int .i32),some (.int .i32),none,none]
def bts:List Nat:=[0,8,8,8,1,1,1,24,24,16,16,16,8,24,24,8,8,8,8,8,16,4,24,40,40,24,24,48,48,24,24,136,136,272,280,280,8,8,8,0,8,8,0,8,0,8,8,24,40,40,0,8,8,8,8,8,8,8,64,64,8,8,8,8,8,8,8,8,8,16,16,8,0,8,8,0,8,8,8,8,0,8,8,8,0,8,40,40,8,24,24,0,8,8,8,24,24,8,8,8,8,8,16,16,8,8,8,8,8,8,8,24,8,8,8,32,32,8,0,8,0,8,8,8,24,8,8,8,8,8,8,8,8,8,8,8,8,8,8,8,8,8,8,8,8,24,32,32,16,16,0,8,8,8,0,8,8,8,8,0,8,0,8,8,8,8,0,8,0,8,0,8,0,8,8,8,0,8,8,8,8,8,8,8,8,8,24,24,8,8,8,8,8,0,8,8,8,8,0,8,8,8,24,0,8,8,8,8,8,8,8,0,8,8,8,8,8,8,0,8,0,8,8,8,8,0,8,0,8,8,0,8,8,8,8,8,8,8,8,0,8,8,8,8,24,24,8,8,8,8,8,8,8,8,8,0,8,8,8,8,8,256,256,0,8,8,8,4,0,8,8,0,8,8,8,8,256,2,2,32,8,8,8,40,40,0,0,0,1,1,8,4,4,48,48]
def pts:List Bool:=[false,false,false,false,false,false,false,false,false,false,false,false,false,false,false,true,true,true,false,false,false,false,false,false,false,false,false,false,false,false,false,false,false,false,false,false,false,false,false,false,false,false,false,false,false,false,false,false,false,false,false,false,false,false,false,false,false,false,false,false,false,false,false,false,false,false,false,false,false,false,false,false,false,false,false,false,false,false,false,false,false,false,false,false,false,false,false,false,false,false,false,false,false,false,false,false,false,false,false,false,false,false,false,false,false,false,false,false,false,false,false,false,false,false,false,false,false,false,false,false,false,false,false,false,false,false,false,false,false,false,false,false,false,false,false,false,false,false,false,false,false,false,false,false,true,false,false,false,false,false,false,false,false,false,false,false,false,false,false,false,false,false,false,false,false,false,false,false,false,false,false,false,false,false,false,false,false,false,false,false,false,false,false,false,false,false,false,false,false,false,false,false,false,false,false,false,false,false,false,false,false,false,false,false,false,false,false,false,false,false,false,false,false,false,false,false,false,true,false,false,false,false,false,false,false,false,false,false,false,false,false,false,false,false,false,false,false,false,false,false,false,false,false,false,false,false,false,false,false,false,false,false,false,false,false,false,false,false,false,false,false,false,false,false,false,false,true,false,false,false,false,false,false,false,false,false,false,false,false,false,false,false,false,false,false,false,false,false,false,false,false,false,false,false,false]
def mps:List (TypeId×TypeId×TypeId):=[(125,9,4),(253,3,4)]
def tab:Tab:=⟨tys,bts,pts,mps⟩
theorem z108:tab.ok Tryz.prog=true:=by kernel_rfl
theorem ek:∀a b c d,EnvOk Tryz.prog (tab.env a b c d):=Tab.env_ok z108
abbrev e0(ps:List Ty):Env:=tab.env (fun _=>[]) (fun _=>[]) [] ps
abbrev uS(n:Nat)(l:List (List SV)):List (List SV):=Nat.rec (motive:=fun _=>List (List SV)) l (fun _ r=>[.undef]::r) n
abbrev nS(n:Nat)(l:List (Option Box)):List (Option Box):=Nat.rec (motive:=fun _=>List (Option Box)) l (fun _ r=>none::r) n
def Tb0:Funs:=Funs.none
theorem o0:Okt Tryz.prog Tb0:= .none (by kernel_rfl)
variable (R:Type) (kk k:Nat) (K:KF R) (J:KX R)
def zmr:Env:=tab.env (fun i=>bif Nat.beq i 3 then [0,3,4] else []) (fun i=>bif Nat.beq i 3 then [3] else []) [] [(.sl 9 .str)]
def zgy(a:(List ByteArray))(b:Zt14)(c:Int):Option R:=loopR (ev zmr (Tb0 R) kk (sub [1,1,0,1,0,0] (cd Tryz.f65))) [0,3,4] [3] k ⟨[.dat (.sl 9 .str) a []]::uS 2 ([.dat (.sl 116 (.pair .str (.pair .str .unit))) b [[]]]::[tI c]::uS 21 []),nS 27 []⟩ J
def zcf(a:Zt14):State:=⟨uS 3 ([.dat (.sl 116 (.pair .str (.pair .str .unit))) a [[]]]::uS 22 []),nS 27 []⟩
def z11l:KX R:=(zl 0 (kSeq zmr (Tb0 R) kk (sub [1,1,1] (cd Tryz.f65)) (kFin zmr Tryz.f65.results.toList none K)))
theorem z1fn(a:(List ByteArray))(b:Zt14)(c:Int):zgy R kk (k+1) J a b c=
 zr8 a b c (zgy R kk k J) (fun a0=>J (.exit 0) (zcf a0)):=by kernel_rfl
theorem z155(a:Zt14):z11l R kk K (.exit 0) (zcf a)=
 zr9 a (fun a0=>K [.dat (.sl 116 (.pair .str (.pair .str .unit))) a0 []] none):=by kernel_rfl
theorem z1b5{kk:Nat}(hF:kk=FUEL)(l_0:(List ByteArray))(t3:Zt14)(t4:Int):zgy R kk k J l_0 t3 t4=(zgz k l_0 t3 t4).bind fun e=>J (.exit 0) (zcf e):=by
 induction k generalizing l_0 t3 t4 with
 |zero=>rfl
 |succ k ih=>
  rw[z1fn]
  simp only[zgz,zr8,ih,nn_]
def Tb1:Funs:=Tb0.add 65 [(.sl 9 .str)] (pu1 (.sl 9 .str) Q157 (fun _ r K=>K [.dat (.sl 116 (.pair .str (.pair .str .unit))) r []] none))
theorem o1:Okt Tryz.prog Tb1:=st1 zmr Tryz.f65 (fun R kk x0 K=>zr7 x0 (zgy R kk kk (z11l R kk K))) o0 (ek _ _ _ _) Tryz.func65 (by kernel_rfl) rfl (fun _ _ _ _ _ _ h=>h _ _) (fun _ _ _ _=>by kernel_rfl) fun R kk e x0 K=>by
 simp only[Q157,zr7,zr9,z1b5 (hF:=e),z155,nn_,←e]
def z1i8:Env:=e0 []
def Tb2:Funs:=Tb1.add 129 [] (pu0 Q105 (fun _ r K=>K [.dat (.sl 3 (.int .i64)) r [[]]] none))
theorem o2:Okt Tryz.prog Tb2:=st0 z1i8 Tryz.f129 (fun R kk K=>zq2 (fun a0=>K [.dat (.sl 3 (.int .i64)) a0 [[]]] none)) o1 (ek _ _ _ _) Tryz.func129 (by kernel_rfl) rfl (fun _ _ _ _ _ _ h=>h _ _) (fun _ _ _=>by kernel_rfl) fun R kk e K=>by
 simp only[Q105,zq2,nn_]
def zmq:Env:={tab.env (fun i=>bif Nat.beq i 4 then [1,2,3] else []) (fun i=>bif Nat.beq i 4 then [1] else []) [] [] with mv:=[31]}
def zgw(a:Zt22)(b:(List Int))(c:Int):Option R:=loopR (ev zmq (Tb2 R) kk (sub [1,1,1,0,1,0,0] (cd Tryz.f66))) [1,2,3] [1] k ⟨uS 1 ([.dat (.sl 59 y12) a [[]]]::[.dat (.sl 3 (.int .i64)) b [[]]]::[tI c]::uS 28 []),nS 33 []⟩ J
def zce(a:Zt22):State:=⟨uS 1 ([.dat (.sl 59 y12) a [[]]]::uS 30 []),nS 33 []⟩
def z11k:KX R:=(zl 0 (kSeq zmq (Tb2 R) kk (sub [1,1,1,1] (cd Tryz.f66)) (kFin zmq Tryz.f66.results.toList none K)))
theorem z1fm(a:Zt22)(b:(List Int))(c:Int):zgw R kk (k+1) J a b c=
 zr5 a b c (zgw R kk k J) (fun a0=>J (.exit 0) (zce a0)):=by kernel_rfl
theorem z154(a:Zt22):z11k R kk K (.exit 0) (zce a)=
 zr6 a (fun a0=>K [.dat (.sl 59 y12) a0 [[]]] none):=by kernel_rfl
theorem z1b4{kk:Nat}(hF:kk=FUEL)(t1:Zt22)(t2:(List Int))(t3:Int):zgw R kk k J t1 t2 t3=(zgx k t1 t2 t3).bind fun e=>J (.exit 0) (zce e):=by
 induction k generalizing t1 t2 t3 with
 |zero=>rfl
 |succ k ih=>
  rw[z1fm]
  simp only[zgx,zr5,ih,nn_]
def Tb3:Funs:=Tb2.add 66 [] (pu0 Q156 (fun _ r K=>K [.dat (.sl 59 y12) r [[]]] none))
theorem o3:Okt Tryz.prog Tb3:=st0 zmq Tryz.f66 (fun R kk K=>zr4 (zgw R kk kk (z11k R kk K))) o2 ((ek _ _ _ _).mv _) Tryz.func66 (by kernel_rfl) rfl (fun _ _ _ _ _ _ h=>h _ _) (fun _ _ _=>by kernel_rfl) fun R kk e K=>by
 simp only[Q156,zr4,zr6,z1b4 (hF:=e),z154,nn_,←e]
def zmi:Env:=tab.env (fun i=>bif Nat.beq i 3 then [0,3,4] else []) (fun i=>bif Nat.beq i 3 then [3] else []) [] [(.sl 116 (.pair .str (.pair .str .unit)))]
def zg6(a b:Zt14)(c:Int):Option R:=loopR (ev zmi (Tb3 R) kk (sub [1,1,0,1,0,0] (cd Tryz.f67))) [0,3,4] [3] k ⟨[.dat (.sl 116 (.pair .str (.pair .str .unit))) a []]::uS 2 ([.dat (.sl 116 (.pair .str (.pair .str .unit))) b [[]]]::[tI c]::uS 22 []),nS 28 []⟩ J
def zbv(a:Zt14):State:=⟨uS 3 ([.dat (.sl 116 (.pair .str (.pair .str .unit))) a [[]]]::uS 23 []),nS 28 []⟩
def z11h:KX R:=(zl 0 (kSeq zmi (Tb3 R) kk (sub [1,1,1] (cd Tryz.f67)) (kFin zmi Tryz.f67.results.toList none K)))
theorem z1fb(a b:Zt14)(c:Int):zg6 R kk (k+1) J a b c=
 zqa a b c (zg6 R kk k J) (fun a0=>J (.exit 0) (zbv a0)):=by kernel_rfl
theorem z14l(a:Zt14):z11h R kk K (.exit 0) (zbv a)=
 zqb a (fun a0=>K [.dat (.sl 116 (.pair .str (.pair .str .unit))) a0 []] none):=by kernel_rfl
theorem z1at{kk:Nat}(hF:kk=FUEL)(l_0 t3:Zt14)(t4:Int):zg6 R kk k J l_0 t3 t4=(zg7 k l_0 t3 t4).bind fun e=>J (.exit 0) (zbv e):=by
 induction k generalizing l_0 t3 t4 with
 |zero=>rfl
 |succ k ih=>
  rw[z1fb]
  simp only[zg7,zqa,ih,nn_]
def Tb4:Funs:=Tb3.add 67 [(.sl 116 (.pair .str (.pair .str .unit)))] (pu1 (.sl 116 (.pair .str (.pair .str .unit))) Q123 (fun _ r K=>K [.dat (.sl 116 (.pair .str (.pair .str .unit))) r []] none))
theorem o4:Okt Tryz.prog Tb4:=st1 zmi Tryz.f67 (fun R kk x0 K=>zq9 x0 (zg6 R kk kk (z11h R kk K))) o3 (ek _ _ _ _) Tryz.func67 (by kernel_rfl) rfl (fun _ _ _ _ _ _ h=>h _ _) (fun _ _ _ _=>by kernel_rfl) fun R kk e x0 K=>by
 simp only[Q123,zq9,zqb,z1at (hF:=e),z14l,nn_,←e]
def z1i9:Env:=e0 []
def Tb5:Funs:=Tb4.add 130 [] (pu0 Q107 (fun _ r K=>K [.dat (.sl 29 (.sl 3 (.int .i64))) r [[]]] none))
theorem o5:Okt Tryz.prog Tb5:=st0 z1i9 Tryz.f130 (fun R kk K=>zq6 (fun a0=>K [.dat (.sl 29 (.sl 3 (.int .i64))) a0 [[]]] none)) o4 (ek _ _ _ _) Tryz.func130 (by kernel_rfl) rfl (fun _ _ _ _ _ _ h=>h _ _) (fun _ _ _=>by kernel_rfl) fun R kk e K=>by
 simp only[Q107,zq6,nn_]
def zme:Env:=tab.env (fun i=>bif Nat.beq i 4 then [0,2,3,4,5] else []) (fun i=>bif Nat.beq i 4 then [2,3] else []) [2] [(.int .i64)]
def zfz(a:Int)(b:Zt3)(c:Int)(d e:Zt18):Option R:=loopR (ev zme (Tb5 R) kk (sub [1,1,1,0,1,0,0] (cd Tryz.f68))) [0,2,3,4,5] [2,3] k ⟨[tI a]::uS 1 ([.ptr 3 y15 []]::[.ptr 4 y15 []]::[.dat (.sl 29 (.sl 3 (.int .i64))) b [[]]]::[tI c]::uS 52 []),nS 3 ((some ⟨y15,d,[[2]]⟩)::(some ⟨y15,e,[[2]]⟩)::nS 54 [])⟩ J
def zbs(a b:Zt18):State:=⟨uS 2 ([.ptr 3 y15 []]::[.ptr 4 y15 []]::uS 54 []),nS 3 ((some ⟨y15,a,[[2]]⟩)::(some ⟨y15,b,[[2]]⟩)::nS 54 [])⟩
def z11g:KX R:=(zl 0 (kSeq zme (Tb5 R) kk (sub [1,1,1,1] (cd Tryz.f68)) (kFin zme Tryz.f68.results.toList none K)))
theorem z1f9(a:Int)(b:Zt3)(c:Int)(d e:Zt18):zfz R kk (k+1) J a b c d e=
 zq4 a b c d e (zfz R kk k J) (fun a0 a1=>J (.exit 0) (zbs a0 a1)):=by kernel_rfl
theorem z14i(a b:Zt18):z11g R kk K (.exit 0) (zbs a b)=
 zq5 a b (fun a0=>K [.dat y15 a0 [[2]]] none):=by kernel_rfl
theorem z1ar{kk:Nat}(hF:kk=FUEL)(which_0:Int)(t4:Zt3)(t5:Int)(bt2 bt3:Zt18):zfz R kk k J which_0 t4 t5 bt2 bt3=(zg0 k which_0 t4 t5 bt2 bt3).bind fun e=>J (.exit 0) (zbs e.1 e.2):=by
 induction k generalizing which_0 t4 t5 bt2 bt3 with
 |zero=>rfl
 |succ k ih=>
  rw[z1f9]
  simp only[zg0,zq4,ih,nn_]
def Tb6:Funs:=Tb5.add 68 [(.int .i64)] (pu1 (.int .i64) Q106 (fun _ r K=>K [.dat y15 r [[2]]] none))
theorem o6:Okt Tryz.prog Tb6:=st1 zme Tryz.f68 (fun R kk x0 K=>zq3 x0 (zfz R kk kk (z11g R kk K))) o5 (ek _ _ _ _) Tryz.func68 (by kernel_rfl) rfl (fun _ _ _ _ _ _ h=>h _ _) (fun _ _ _ _=>by kernel_rfl) fun R kk e x0 K=>by
 simp only[Q106,zq3,zq5,z1ar (hF:=e),z14i,nn_,←e]
def z1if:Env:=e0 [.str,.str,.str]
def Tb7:Funs:=Tb6.add 69 [.str,.str,.str] (pu3 .str .str .str Q155 (fun _ r K=>K [.dat (.sl 96 (.pair (.int .i64) (.pair .str .unit))) r [[]]] none))
theorem o7:Okt Tryz.prog Tb7:=st3 z1if Tryz.f69 (fun R kk x0 x1 x2 K=>zr3 x0 x1 x2 (fun a0=>K [.dat (.sl 96 (.pair (.int .i64) (.pair .str .unit))) a0 [[]]] none)) o6 (ek _ _ _ _) Tryz.func69 (by kernel_rfl) rfl (fun _ _ _ _ _ _ h=>h _ _) (fun _ _ _ _ _ _=>by kernel_rfl) fun R kk e x0 x1 x2 K=>by
 simp only[Q155,zr3,nn_]
def z1id:Env:={tab.env (fun _=>[]) (fun _=>[]) [0] [] with sh:=[47,59]}
def Tb8:Funs:=Tb7.add 26 [] (pu0 Q145 (fun _ r K=>K [.dat y19 r [[0,((1:Int)).toNat,3],[0,((1:Int)).toNat,2],[0,((1:Int)).toNat,0,2],[0,((0:Int)).toNat,3],[0,((0:Int)).toNat,0,2]]] none))
theorem o8:Okt Tryz.prog Tb8:=st0 z1id Tryz.f26 (fun R kk K=>zqu (fun a0=>K [.dat y19 a0 [[0,((1:Int)).toNat,3],[0,((1:Int)).toNat,2],[0,((1:Int)).toNat,0,2],[0,((0:Int)).toNat,3],[0,((0:Int)).toNat,0,2]]] none)) o7 ((ek _ _ _ _).sh _) Tryz.func26 (by kernel_rfl) rfl (fun _ _ _ _ _ _ h=>h _ _) (fun _ _ _=>by kernel_rfl) fun R kk e K=>by
 simp only[Q145,zqu,nn_]
def Q19_E:Env:=e0 [(.int .i64)]
def Tb9:Funs:=Tb8.add 211 [(.int .i64)] (pu1 (.int .i64) Q19 (fun _ r K=>K [tI r] none))
theorem o9:Okt Tryz.prog Tb9:=st1 Q19_E Tryz.f211 (fun R kk x0 K=>zn7 x0 (fun a0=>K [tI a0] none)) o8 (ek _ _ _ _) Tryz.func211 (by kernel_rfl) rfl (fun _ _ _ _ _ _ h=>h _ _) (fun _ _ _ _=>by kernel_rfl) fun R kk e x0 K=>by
 simp only[Q19,zn7,nn_]
def Q16_E:Env:=e0 [(.int .i64)]
def Tb10:Funs:=Tb9.add 186 [(.int .i64)] (pu1 (.int .i64) Q16 (fun _ r K=>K [tB r] none))
theorem o10:Okt Tryz.prog Tb10:=st1 Q16_E Tryz.f186 (fun R kk x0 K=>zmy x0 (fun a0=>K [tB a0] none)) o9 (ek _ _ _ _) Tryz.func186 (by kernel_rfl) rfl (fun _ _ _ _ _ _ h=>h _ _) (fun _ _ _ _=>by kernel_rfl) fun R kk e x0 K=>by
 simp only[Q16,zmy,nn_]
def z1iu:Env:=e0 [(.int .i64)]
def Tb11:Funs:=Tb10.add 202 [(.int .i64)] (pu1 (.int .i64) Q186 (fun _ r K=>K [tI r] none))
theorem o11:Okt Tryz.prog Tb11:=st1 z1iu Tryz.f202 (fun R kk x0 K=>z9k x0 (fun a0=>K [tI a0] none)) o10 (ek _ _ _ _) Tryz.func202 (by kernel_rfl) rfl (fun _ _ _ _ _ _ h=>h _ _) (fun _ _ _ _=>by kernel_rfl) fun R kk e x0 K=>by
 simp only[Q186,z9k,nn_]
def zn4:Env:=tab.env (fun i=>bif Nat.beq i 3 then [3,5,6] else []) (fun i=>bif Nat.beq i 3 then [3] else []) [] [(.int .i64)]
def zhp(a b c:Int):Option R:=loopR (ev zn4 (Tb11 R) kk (sub [1,1,0,1,0,0] (cd Tryz.f187))) [3,5,6] [3] k ⟨uS 3 ([tI a]::uS 1 ([tI b]::[tI c]::uS 6 [])),nS 14 []⟩ J
def zct(a:Int):State:=⟨uS 3 ([tI a]::uS 9 []),nS 14 []⟩
def z11q:KX R:=(zl 0 (kSeq zn4 (Tb11 R) kk (sub [1,1,1] (cd Tryz.f187)) (kFin zn4 Tryz.f187.results.toList none K)))
theorem z1fx(a b c:Int):zhp R kk (k+1) J a b c=
 zrz a b c (zhp R kk k J) (fun a0=>J (.exit 0) (zct a0)):=by kernel_rfl
theorem z15i(a:Int):z11q R kk K (.exit 0) (zct a)=
 zs0 a (fun a0=>K [tI a0] none):=by kernel_rfl
theorem z1bg{kk:Nat}(hF:kk=FUEL)(t3 t5 t6:Int):zhp R kk k J t3 t5 t6=(zhq k t3 t5 t6).bind fun e=>J (.exit 0) (zct e):=by
 induction k generalizing t3 t5 t6 with
 |zero=>rfl
 |succ k ih=>
  rw[z1fx]
  simp only[zhq,zrz,ih,nn_]
def Tb12:Funs:=Tb11.add 187 [(.int .i64)] (pu1 (.int .i64) Q183 (fun _ r K=>K [tI r] none))
theorem o12:Okt Tryz.prog Tb12:=st1 zn4 Tryz.f187 (fun R kk x0 K=>zry x0 (zhp R kk kk (z11q R kk K))) o11 (ek _ _ _ _) Tryz.func187 (by kernel_rfl) rfl (fun _ _ _ _ _ _ h=>h _ _) (fun _ _ _ _=>by kernel_rfl) fun R kk e x0 K=>by
 simp only[Q183,zry,zs0,z1bg (hF:=e),z15i,nn_,←e]
def z1j9:Env:=e0 [y9]
def Tb13:Funs:=Tb12.add 131 [y9] (pu1 y9 Q218 (fun _ r K=>K [tI r] none))
theorem o13:Okt Tryz.prog Tb13:=st1 z1j9 Tryz.f131 (fun R kk x0 K=>ziu x0 (fun a0=>K [tI a0] none)) o12 (ek _ _ _ _) Tryz.func131 (by kernel_rfl) rfl (fun _ _ _ _ _ _ h=>h _ _) (fun _ _ _ _=>by kernel_rfl) fun R kk e x0 K=>by
 simp only[Q218,ziu,nn_]
def znb:Env:=tab.env (fun i=>bif Nat.beq i 6 then [1,26,27,28] else []) (fun i=>bif Nat.beq i 6 then [2,3] else []) [] [y15]
def zih(a:Zt15)(b c:Int)(d:Zt18):Option R:=loopR (ev znb (Tb13 R) kk (sub [1,1,0,1,0,0] (cd Tryz.f72))) [1,26,27,28] [2,3] k ⟨uS 1 ([.ptr 2 y15 []]::uS 24 ([.dat (.sl 87 y9) a []]::[tI b]::[tI c]::uS 26 [])),nS 2 ((some ⟨y15,d,[]⟩)::nS 53 [])⟩ J
def zd8(a b:Int):State:=⟨uS 2 ([tI a]::[tI b]::uS 51 []),nS 56 []⟩
def zd9:State:=⟨uS 55 [],nS 56 []⟩
def zsl:KX R:=(zl 1 (kSeq znb (Tb13 R) kk (sub [1,1,1] (cd Tryz.f72)) (kFin znb Tryz.f72.results.toList none K)))
theorem z1g7(a:Zt15)(b c:Int)(d:Zt18):zih R kk (k+1) J a b c d=
 z9q a b c d (fun a0 a1=>J .ret (zd8 a0 a1)) (zih R kk k J) (J (.exit 1) (zd9)):=by kernel_rfl
theorem z15w(a b:Int):zsl R kk K .ret (zd8 a b)=
 zii a b (fun a0 a1=>K [tI a0,tI a1] none):=by kernel_rfl
theorem z15x:zsl R kk K (.exit 1) (zd9)=
 zij (fun a0 a1=>K [tI a0,tI a1] none):=by kernel_rfl
theorem z1bq{kk:Nat}(hF:kk=FUEL)(t26:Zt15)(t27 t28:Int)(bt1:Zt18):zih R kk k J t26 t27 t28 bt1=(z54 k t26 t27 t28 bt1).bind fun e=>(Sum.elim (fun(we:(Int×Int))=>J .ret (zd8 we.1 we.2)) (fun(we:Unit)=>J (.exit 1) (zd9)) e):=by
 induction k generalizing t26 t27 t28 bt1 with
 |zero=>rfl
 |succ k ih=>
  rw[z1g7]
  simp only[z54,z9q,ih,nn_]
def Tb14:Funs:=Tb13.add 72 [y15] (pu1 y15 Q210 (fun _ r K=>K [tI r.1,tI r.2] none))
theorem o14:Okt Tryz.prog Tb14:=st1 znb Tryz.f72 (fun R kk x0 K=>z77 x0 (fun a0 a1=>K [tI a0,tI a1] none) (fun a0 a1 a2 a3=>zih R kk kk (zsl R kk K) a0 a1 a2 a3)) o13 (ek _ _ _ _) Tryz.func72 (by kernel_rfl) rfl (fun _ _ _ _ _ _ h=>h _ _) (fun _ _ _ _=>by kernel_rfl) fun R kk e x0 K=>by
 simp only[Q210,zxo,zii,zij,z1bq (hF:=e),z15w,z15x,nn_,←e]
def znc:Env:=tab.env (fun i=>bif Nat.beq i 2 then [1,4,9,10,11] else []) (fun i=>bif Nat.beq i 2 then [4,5] else []) [4] [y15,(.int .i64)]
def zik(a:Int)(b:Zt15)(c d:Int)(e:Zt13):Option R:=loopR (ev znc (Tb14 R) kk (sub [1,0,1,0,0] (cd Tryz.f73))) [1,4,9,10,11] [4,5] k ⟨uS 1 ([tI a]::uS 2 ([.ptr 5 y9 []]::uS 4 ([.dat (.sl 87 y9) b []]::[tI c]::[tI d]::uS 10 []))),nS 5 ((some ⟨y9,e,[]⟩)::nS 17 [])⟩ J
def zda(a:Bool)(b:Zt13):State:=⟨uS 4 ([.ptr 5 y9 []]::[tB a]::uS 16 []),nS 5 ((some ⟨y9,b,[]⟩)::nS 17 [])⟩
def zdb(a:Zt13):State:=⟨uS 4 ([.ptr 5 y9 []]::uS 17 []),nS 5 ((some ⟨y9,a,[]⟩)::nS 17 [])⟩
def zsm:KX R:=(zl 0 (kSeq znc (Tb14 R) kk (sub [1,1] (cd Tryz.f73)) (kFin znc Tryz.f73.results.toList none K)))
theorem z1g8(a:Int)(b:Zt15)(c d:Int)(e:Zt13):zik R kk (k+1) J a b c d e=
 zsn a b c d e (fun a0 a1=>J .ret (zda a0 a1)) (zik R kk k J) (fun a0=>J (.exit 0) (zdb a0)):=by kernel_rfl
theorem z15y(a:Bool)(b:Zt13):zsm R kk K .ret (zda a b)=
 zso a b (fun a0 a1=>K [.dat y9 a0 [],tB a1] none):=by kernel_rfl
theorem z15z(a:Zt13):zsm R kk K (.exit 0) (zdb a)=
 zsp a (fun a0 a1=>K [.dat y9 a0 [],tB a1] none):=by kernel_rfl
theorem z1br{kk:Nat}(hF:kk=FUEL)(no_1:Int)(t9:Zt15)(t10 t11:Int)(bt4:Zt13):zik R kk k J no_1 t9 t10 t11 bt4=(z9r k no_1 t9 t10 t11 bt4).bind fun e=>(Sum.elim (fun(we:(Bool×Zt13))=>J .ret (zda we.1 we.2)) (fun(we:Zt13)=>J (.exit 0) (zdb we)) e):=by
 induction k generalizing no_1 t9 t10 t11 bt4 with
 |zero=>rfl
 |succ k ih=>
  rw[z1g8]
  simp only[z9r,zsn,ih,nn_]
def Tb15:Funs:=Tb14.add 73 [y15,(.int .i64)] (pu2 y15 (.int .i64) Q211 (fun _ r K=>K [.dat y9 r.1 [],tB r.2] none))
theorem o15:Okt Tryz.prog Tb15:=st2 znc Tryz.f73 (fun R kk x0 x1 K=>zil x0 x1 (zik R kk kk (zsm R kk K))) o14 (ek _ _ _ _) Tryz.func73 (by kernel_rfl) rfl (fun _ _ _ _ _ _ h=>h _ _) (fun _ _ _ _ _=>by kernel_rfl) fun R kk e x0 x1 K=>by
 simp only[Q211,zil,zso,zsp,z1br (hF:=e),z15y,z15z,nn_,←e]
def znf:Env:=tab.env (fun i=>bif Nat.beq i 2 then [0,1,7,8] else []) (fun i=>bif Nat.beq i 2 then [4] else []) [] [(.sl 3 (.int .i64)),(.int .i64)]
def zis(a:(List Int))(b c d:Int):Option R:=loopR (ev znf (Tb15 R) kk (sub [1,0,1,0,0] (cd Tryz.f188))) [0,1,7,8] [4] k ⟨[.dat (.sl 3 (.int .i64)) a []]::[tI b]::uS 5 ([tI c]::[tI d]::uS 10 []),nS 20 []⟩ J
def zdg(a:Int):State:=⟨uS 4 ([tI a]::uS 14 []),nS 20 []⟩
def zdh:State:=⟨uS 19 [],nS 20 []⟩
def zsy:KX R:=(zl 0 (kSeq znf (Tb15 R) kk (sub [1,1] (cd Tryz.f188)) (kFin znf Tryz.f188.results.toList none K)))
theorem z1gb(a:(List Int))(b c d:Int):zis R kk (k+1) J a b c d=
 zsz a b c d (fun a0=>J .ret (zdg a0)) (zis R kk k J) (J (.exit 0) (zdh)):=by kernel_rfl
theorem z165(a:Int):zsy R kk K .ret (zdg a)=
 zt0 a (fun a0=>K [tI a0] none):=by kernel_rfl
theorem z166:zsy R kk K (.exit 0) (zdh)=
 zt1 (fun a0=>K [tI a0] none):=by kernel_rfl
theorem z1bu{kk:Nat}(hF:kk=FUEL)(a_0:(List Int))(a_1 t7 t8:Int):zis R kk k J a_0 a_1 t7 t8=(z9u k a_0 a_1 t7 t8).bind fun e=>(Sum.elim (fun(we:Int)=>J .ret (zdg we)) (fun(we:Unit)=>J (.exit 0) (zdh)) e):=by
 induction k generalizing a_0 a_1 t7 t8 with
 |zero=>rfl
 |succ k ih=>
  rw[z1gb]
  simp only[z9u,zsz,ih,nn_]
def Tb16:Funs:=Tb15.add 188 [(.sl 3 (.int .i64)),(.int .i64)] (pu2 (.sl 3 (.int .i64)) (.int .i64) Q217 (fun _ r K=>K [tI r] none))
theorem o16:Okt Tryz.prog Tb16:=st2 znf Tryz.f188 (fun R kk x0 x1 K=>zit x0 x1 (zis R kk kk (zsy R kk K))) o15 (ek _ _ _ _) Tryz.func188 (by kernel_rfl) rfl (fun _ _ _ _ _ _ h=>h _ _) (fun _ _ _ _ _=>by kernel_rfl) fun R kk e x0 x1 K=>by
 simp only[Q217,zit,zt0,zt1,z1bu (hF:=e),z165,z166,nn_,←e]
def z1j8:Env:=e0 [(.sl 3 (.int .i64)),(.int .i64)]
def Tb17:Funs:=Tb16.add 132 [(.sl 3 (.int .i64)),(.int .i64)] (pu2 (.sl 3 (.int .i64)) (.int .i64) Q214 (fun _ r K=>K [tB r] none))
theorem o17:Okt Tryz.prog Tb17:=st2 z1j8 Tryz.f132 (fun R kk x0 x1 K=>zin x0 x1 (fun a0=>K [tB a0] none)) o16 (ek _ _ _ _) Tryz.func132 (by kernel_rfl) rfl (fun _ _ _ _ _ _ h=>h _ _) (fun _ _ _ _ _=>by kernel_rfl) fun R kk e x0 x1 K=>by
 simp only[Q214,zin,nn_]
def z1ix:Env:=e0 [y18,(.int .i64)]
def Tb18:Funs:=Tb17.add 74 [y18,(.int .i64)] (pu2 y18 (.int .i64) Q192 (fun _ r K=>K [tI r] none))
theorem o18:Okt Tryz.prog Tb18:=st2 z1ix Tryz.f74 (fun R kk x0 x1 K=>zi6 x0 x1 (fun a0=>K [tI a0] none)) o17 (ek _ _ _ _) Tryz.func74 (by kernel_rfl) rfl (fun _ _ _ _ _ _ h=>h _ _) (fun _ _ _ _ _=>by kernel_rfl) fun R kk e x0 x1 K=>by
 simp only[Q192,zi6,nn_]
def z1iw:Env:=e0 [(.pair (.int .i64) (.pair .str .unit)),.unit]
def Tb19:Funs:=Tb18.add 134 [(.pair (.int .i64) (.pair .str .unit)),.unit] (pz (.pair (.int .i64) (.pair .str .unit)) (.pair (.int .i64) (.pair .str .unit)) (.pair (.int .i64) (.pair .str .unit)) [] Q191 (fun _ r K=>K [tB r.1] (some ⟨(.pair (.int .i64) (.pair .str .unit)),r.2,[]⟩)))
theorem o19:Okt Tryz.prog Tb19:=sz z1iw Tryz.f134 (fun R kk x0 x1 K=>zi5 x0 x1 (fun a0 a1=>K [tB a0] (some ⟨(.pair (.int .i64) (.pair .str .unit)),a1,[]⟩))) o18 (ek _ _ _ _) Tryz.func134 (by kernel_rfl) rfl (fun _ _ _ _ _ _ h=>h _ _) (fun _ _ _ _ _=>by kernel_rfl) fun R kk e x0 x1 K=>by
 simp only[Q191,zi5,nn_]
def znd:Env:=tab.env (fun i=>bif Nat.beq i 2 then [0,1,7,8] else []) (fun i=>bif Nat.beq i 2 then [4] else []) [] [(.sl 96 (.pair (.int .i64) (.pair .str .unit))),.unit]
def zio(a:Zt12)(b c:Int)(d:Zt9):Option R:=loopR (ev znd (Tb19 R) kk (sub [1,0,1,0,0] (cd Tryz.f189))) [0,1,7,8] [4] k ⟨[.dat (.sl 96 (.pair (.int .i64) (.pair .str .unit))) a []]::[.ptr 0 (.spc (.clo 134) (.pair (.int .i64) (.pair .str .unit)) .unit) []]::uS 5 ([tI b]::[tI c]::uS 10 []),(some ⟨(.pair (.int .i64) (.pair .str .unit)),d,[]⟩)::nS 19 []⟩ J
def zdc(a:Int)(b:Zt9):State:=⟨uS 4 ([tI a]::uS 14 []),(some ⟨(.pair (.int .i64) (.pair .str .unit)),b,[]⟩)::nS 19 []⟩
def zdd(a:Zt9):State:=⟨uS 19 [],(some ⟨(.pair (.int .i64) (.pair .str .unit)),a,[]⟩)::nS 19 []⟩
def zsq(a:Zt9):KX R:=(zl 0 (kSeq znd (Tb19 R) kk (sub [1,1] (cd Tryz.f189)) (kFin znd Tryz.f189.results.toList (some ⟨(.pair (.int .i64) (.pair .str .unit)),a,[]⟩) K)))
theorem z1g9(a:Zt12)(b c:Int)(d:Zt9):zio R kk (k+1) J a b c d=
 zsr a b c d (fun a0 a1=>J .ret (zdc a0 a1)) (zio R kk k J) (fun a0=>J (.exit 0) (zdd a0)):=by kernel_rfl
theorem z160(a:Zt9)(b:Int)(c:Zt9):zsq R kk K a .ret (zdc b c)=
 zss b c (fun a0 a1=>K [tI a0] (some ⟨(.pair (.int .i64) (.pair .str .unit)),a1,[]⟩)):=by kernel_rfl
theorem z161(a b:Zt9):zsq R kk K a (.exit 0) (zdd b)=
 zst b (fun a0 a1=>K [tI a0] (some ⟨(.pair (.int .i64) (.pair .str .unit)),a1,[]⟩)):=by kernel_rfl
theorem z1bs{kk:Nat}(hF:kk=FUEL)(a_0:Zt12)(t7 t8:Int)(recv:Zt9):zio R kk k J a_0 t7 t8 recv=(z9s k a_0 t7 t8 recv).bind fun e=>(Sum.elim (fun(we:(Int×Zt9))=>J .ret (zdc we.1 we.2)) (fun(we:Zt9)=>J (.exit 0) (zdd we)) e):=by
 induction k generalizing a_0 t7 t8 recv with
 |zero=>rfl
 |succ k ih=>
  rw[z1g9]
  simp only[z9s,zsr,ih,nn_]
def Tb20:Funs:=Tb19.add 189 [(.sl 96 (.pair (.int .i64) (.pair .str .unit))),.unit] (pz (.sl 96 (.pair (.int .i64) (.pair .str .unit))) (.spc (.clo 134) (.pair (.int .i64) (.pair .str .unit)) .unit) (.pair (.int .i64) (.pair .str .unit)) [] Q215 (fun _ r K=>K [tI r.1] (some ⟨(.pair (.int .i64) (.pair .str .unit)),r.2,[]⟩)))
theorem o20:Okt Tryz.prog Tb20:=sz znd Tryz.f189 (fun R kk x0 x1 K=>zip x0 x1 (zio R kk kk (zsq R kk K x1))) o19 (ek _ _ _ _) Tryz.func189 (by kernel_rfl) rfl (fun _ _ _ _ _ _ h=>h _ _) (fun _ _ _ _ _=>by kernel_rfl) fun R kk e x0 x1 K=>by
 simp only[Q215,zip,zss,zst,z1bs (hF:=e),z160,z161,nn_,←e]
def z1j7:Env:=e0 [(.sl 96 (.pair (.int .i64) (.pair .str .unit))),.unit]
def Tb21:Funs:=Tb20.add 133 [(.sl 96 (.pair (.int .i64) (.pair .str .unit))),.unit] (pz (.sl 96 (.pair (.int .i64) (.pair .str .unit))) (.spc (.clo 134) (.pair (.int .i64) (.pair .str .unit)) .unit) (.pair (.int .i64) (.pair .str .unit)) [] Q213 (fun _ r K=>K [tB r.1] (some ⟨(.pair (.int .i64) (.pair .str .unit)),r.2,[]⟩)))
theorem o21:Okt Tryz.prog Tb21:=sz z1j7 Tryz.f133 (fun R kk x0 x1 K=>zim x0 x1 (fun a0 a1=>K [tB a0] (some ⟨(.pair (.int .i64) (.pair .str .unit)),a1,[]⟩))) o20 (ek _ _ _ _) Tryz.func133 (by kernel_rfl) rfl (fun _ _ _ _ _ _ h=>h _ _) (fun _ _ _ _ _=>by kernel_rfl) fun R kk e x0 x1 K=>by
 simp only[Q213,zim,nn_]
def Q18_E:Env:=e0 [(.int .u8)]
def Tb22:Funs:=Tb21.add 212 [(.int .u8)] (pu1 (.int .u8) Q18 (fun _ r K=>K [tI r] none))
theorem o22:Okt Tryz.prog Tb22:=st1 Q18_E Tryz.f212 (fun R kk x0 K=>zxj x0 (fun a0=>K [tI a0] none)) o21 (ek _ _ _ _) Tryz.func212 (by kernel_rfl) rfl (fun _ _ _ _ _ _ h=>h _ _) (fun _ _ _ _=>by kernel_rfl) fun R kk e x0 K=>by
 simp only[Q18,zxj,nn_]
def Q15_E:Env:=tab.env (fun i=>bif Nat.beq i 3 then [1,5,6] else []) (fun i=>bif Nat.beq i 3 then [4] else []) [] [(.int .i64),.str]
def zmt(a:ByteArray)(b c:Int):Option R:=loopR (ev Q15_E (Tb22 R) kk (sub [1,1,0,1,0,0] (cd Tryz.f190))) [1,5,6] [4] k ⟨uS 1 ([tS a]::uS 3 ([tI b]::[tI c]::uS 16 [])),nS 24 []⟩ J
def zl4(a:Int):State:=⟨uS 4 ([tI a]::uS 18 []),nS 24 []⟩
def zl5:State:=⟨uS 23 [],nS 24 []⟩
def zxg:KX R:=(zl 0 (kSeq Q15_E (Tb22 R) kk (sub [1,1,1] (cd Tryz.f190)) (kFin Q15_E Tryz.f190.results.toList none K)))
theorem z1ih(a:ByteArray)(b c:Int):zmt R kk (k+1) J a b c=
 zci a b c (fun a0=>J .ret (zl4 a0)) (zmt R kk k J) (J (.exit 0) (zl5)):=by kernel_rfl
theorem z1b7(a:Int):zxg R kk K .ret (zl4 a)=
 zxh a (fun a0=>K [tI a0] none):=by kernel_rfl
theorem z1b8:zxg R kk K (.exit 0) (zl5)=
 zxi (fun a0=>K [tI a0] none):=by kernel_rfl
theorem z1fp{kk:Nat}(hF:kk=FUEL)(s_1:ByteArray)(t5 t6:Int):zmt R kk k J s_1 t5 t6=(z7m k s_1 t5 t6).bind fun e=>(Sum.elim (fun(we:Int)=>J .ret (zl4 we)) (fun(we:Unit)=>J (.exit 0) (zl5)) e):=by
 induction k generalizing s_1 t5 t6 with
 |zero=>rfl
 |succ k ih=>
  rw[z1ih]
  simp only[z7m,zci,ih,nn_]
def Tb23:Funs:=Tb22.add 190 [(.int .i64),.str] (pu2 (.int .i64) .str Q15 (fun _ r K=>K [tI r] none))
theorem o23:Okt Tryz.prog Tb23:=st2 Q15_E Tryz.f190 (fun R kk x0 x1 K=>zmu x0 x1 (zmt R kk kk (zxg R kk K))) o22 (ek _ _ _ _) Tryz.func190 (by kernel_rfl) rfl (fun _ _ _ _ _ _ h=>h _ _) (fun _ _ _ _ _=>by kernel_rfl) fun R kk e x0 x1 K=>by
 simp only[Q15,zmu,zxh,zxi,z1fp (hF:=e),z1b7,z1b8,nn_,←e]
def z1ji:Env:=e0 [(.int .i64)]
def Tb24:Funs:=Tb23.add 227 [(.int .i64)] (pu1 (.int .i64) Q231 (fun _ r K=>K [tB r] none))
theorem o24:Okt Tryz.prog Tb24:=st1 z1ji Tryz.f227 (fun R kk x0 K=>zt5 x0 (fun a0=>K [tB a0] none)) o23 (ek _ _ _ _) Tryz.func227 (by kernel_rfl) rfl (fun _ _ _ _ _ _ h=>h _ _) (fun _ _ _ _=>by kernel_rfl) fun R kk e x0 K=>by
 simp only[Q231,zt5,nn_]
def z1jh:Env:=e0 [(.int .i64)]
def Tb25:Funs:=Tb24.add 228 [(.int .i64)] (pu1 (.int .i64) Q230 (fun _ r K=>K [tB r] none))
theorem o25:Okt Tryz.prog Tb25:=st1 z1jh Tryz.f228 (fun R kk x0 K=>zjb x0 (fun a0=>K [tB a0] none)) o24 (ek _ _ _ _) Tryz.func228 (by kernel_rfl) rfl (fun _ _ _ _ _ _ h=>h _ _) (fun _ _ _ _=>by kernel_rfl) fun R kk e x0 K=>by
 simp only[Q230,zjb,nn_]
def z1jf:Env:=e0 [.str,(.int .i64)]
def Tb26:Funs:=Tb25.add 213 [.str,(.int .i64)] (pu2 .str (.int .i64) Q229 (fun _ r K=>K [tI r.1,tI r.2.1,tI r.2.2] none))
theorem o26:Okt Tryz.prog Tb26:=st2 z1jf Tryz.f213 (fun R kk x0 x1 K=>zja x0 x1 (fun a0 a1 a2=>K [tI a0,tI a1,tI a2] none)) o25 (ek _ _ _ _) Tryz.func213 (by kernel_rfl) rfl (fun _ _ _ _ _ _ h=>h _ _) (fun _ _ _ _ _=>by kernel_rfl) fun R kk e x0 x1 K=>by
 simp only[Q229,zja,nn_]
def Q4_E:Env:=e0 [(.int .i64)]
def Tb27:Funs:=Tb26.add 229 [(.int .i64)] (pu1 (.int .i64) Q4 (fun _ r K=>K [tI r] none))
theorem o27:Okt Tryz.prog Tb27:=st1 Q4_E Tryz.f229 (fun R kk x0 K=>Q4_s0 x0 (fun a0=>K [tI a0] none)) o26 (ek _ _ _ _) Tryz.func229 (by kernel_rfl) rfl (fun _ _ _ _ _ _ h=>h _ _) (fun _ _ _ _=>by kernel_rfl) fun R kk e x0 K=>by
 simp only[Q4,Q4_s0,nn_]
def Q3_E:Env:=tab.env (fun i=>bif Nat.beq i 14 then [0,1,7,8,44,45] else []) (fun i=>bif Nat.beq i 14 then [1,7,8] else []) [] [.str,(.int .i64)]
def Q3_L0(a:ByteArray)(b c d e f:Int):Option R:=loopR (ev Q3_E (Tb27 R) kk (sub [1,1,1,1,1,1,1,0,1,0,0] (cd Tryz.f214))) [0,1,7,8,44,45] [1,7,8] k ⟨[tS a]::[tI b]::uS 5 ([tI c]::[tI d]::uS 35 ([tI e]::[tI f]::uS 21 [])),nS 68 []⟩ J
def ztx(a b c:Int):State:=⟨uS 1 ([tI a]::uS 5 ([tI b]::[tI c]::uS 58 [])),nS 68 []⟩
def Q3_K0:KX R:=(zl 0 (kSeq Q3_E (Tb27 R) kk (sub [1,1,1,1,1,1,1,1] (cd Tryz.f214)) (kFin Q3_E Tryz.f214.results.toList none K)))
theorem Q3_d0(a:ByteArray)(b c d e f:Int):Q3_L0 R kk (k+1) J a b c d e f=
 Q3_s1 a b c d e f (Q3_L0 R kk k J) (fun a0 a1 a2=>J (.exit 0) (ztx a0 a1 a2)):=by kernel_rfl
theorem z1gu(a b c:Int):Q3_K0 R kk K (.exit 0) (ztx a b c)=
 Q3_s2 a b c (fun a0 a1 a2=>K [tI a0,tI a1,tI a2] none):=by kernel_rfl
theorem z1jr{kk:Nat}(hF:kk=FUEL)(b_0:ByteArray)(at_1 t7 t8 t44 t45:Int):Q3_L0 R kk k J b_0 at_1 t7 t8 t44 t45=(Q3_l0 k b_0 at_1 t7 t8 t44 t45).bind fun e=>J (.exit 0) (ztx e.1 e.2.1 e.2.2):=by
 induction k generalizing b_0 at_1 t7 t8 t44 t45 with
 |zero=>rfl
 |succ k ih=>
  rw[Q3_d0]
  simp only[Q3_l0,Q3_s1,ih,nn_]
def Tb28:Funs:=Tb27.add 214 [.str,(.int .i64)] (pu2 .str (.int .i64) Q3 (fun _ r K=>K [tI r.1,tI r.2.1,tI r.2.2] none))
theorem o28:Okt Tryz.prog Tb28:=st2 Q3_E Tryz.f214 (fun R kk x0 x1 K=>Q3_s0 x0 x1 (fun a0 a1 a2=>K [tI a0,tI a1,tI a2] none) (fun a0 a1 a2 a3 a4 a5=>Q3_L0 R kk kk (Q3_K0 R kk K) a0 a1 a2 a3 a4 a5)) o27 (ek _ _ _ _) Tryz.func214 (by kernel_rfl) rfl (fun _ _ _ _ _ _ h=>h _ _) (fun _ _ _ _ _=>by kernel_rfl) fun R kk e x0 x1 K=>by
 simp only[Q3,z131,Q3_s2,z1jr (hF:=e),z1gu,nn_,←e]
def znm:Env:=tab.env (fun i=>bif Nat.beq i 4 then [0,5,6,7,13] else []) (fun i=>bif Nat.beq i 4 then [2,3,4,5] else []) [] [.str]
def zjc(a:ByteArray)(b:Zt12)(c:Int)(d:Zt7):Option R:=loopR (ev znm (Tb28 R) kk (sub [1,1,1,0,1,0,0] (cd Tryz.f191))) [0,5,6,7,13] [2,3,4,5] k ⟨[tS a]::uS 4 ([.dat (.sl 245 (.pair (.int .i64) (.pair .str .unit))) b [[]]]::[.ptr 14 (.spc .mp (.int .i64) .bool) []]::[tI c]::uS 5 ([.ptr 14 (.spc .mp (.int .i64) .bool) []]::uS 58 [])),nS 14 ((some ⟨(.spc .mp (.int .i64) .bool),d,[]⟩)::nS 58 [])⟩ J
def zdn(a:Zt12)(b c:Int)(d:Zt12):State:=⟨uS 2 ([.dat (.sl 245 (.pair (.int .i64) (.pair .str .unit))) a [[]]]::[tI b]::[tI c]::[.dat (.sl 245 (.pair (.int .i64) (.pair .str .unit))) d [[]]]::uS 66 []),nS 73 []⟩
def zdo(a:Zt12):State:=⟨uS 5 ([.dat (.sl 245 (.pair (.int .i64) (.pair .str .unit))) a [[]]]::uS 66 []),nS 73 []⟩
def zt6:KX R:=(zl 0 (kSeq znm (Tb28 R) kk (sub [1,1,1,1] (cd Tryz.f191)) (kFin znm Tryz.f191.results.toList none K)))
theorem z1gg(a:ByteArray)(b:Zt12)(c:Int)(d:Zt7):zjc R kk (k+1) J a b c d=
 zje a b c d (fun a0 a1 a2 a3=>J .ret (zdn a0 a1 a2 a3)) (zjc R kk k J) (fun a0=>J (.exit 0) (zdo a0)):=by kernel_rfl
theorem z16b(a:Zt12)(b c:Int)(d:Zt12):zt6 R kk K .ret (zdn a b c d)=
 zt7 a b c d (fun a0 a1 a2=>K [.dat (.sl 245 (.pair (.int .i64) (.pair .str .unit))) a0 [[]],tI a1,tI a2] none):=by kernel_rfl
theorem z16c(a:Zt12):zt6 R kk K (.exit 0) (zdo a)=
 zt8 a (fun a0 a1 a2=>K [.dat (.sl 245 (.pair (.int .i64) (.pair .str .unit))) a0 [],tI a1,tI a2] none):=by kernel_rfl
theorem z1c0{kk:Nat}(hF:kk=FUEL)(b_0:ByteArray)(t5:Zt12)(t7:Int)(bt6:Zt7):zjc R kk k J b_0 t5 t7 bt6=(z7a k b_0 t5 t7 bt6).bind fun e=>(Sum.elim (fun(we:Zt21)=>J .ret (zdn we.1 we.2.1 we.2.2.1 we.2.2.2)) (fun(we:Zt12)=>J (.exit 0) (zdo we)) e):=by
 induction k generalizing b_0 t5 t7 bt6 with
 |zero=>rfl
 |succ k ih=>
  rw[z1gg]
  simp only[z7a,zje,ih,nn_]
def Tb29:Funs:=Tb28.add 191 [.str] (pu1 .str Q232 (fun _ r K=>(Sum.elim (fun(wr:Zt16)=>K [.dat (.sl 245 (.pair (.int .i64) (.pair .str .unit))) wr.1 [[]],tI wr.2.1,tI wr.2.2] none) (fun(wr:Zt16)=>K [.dat (.sl 245 (.pair (.int .i64) (.pair .str .unit))) wr.1 [],tI wr.2.1,tI wr.2.2] none) r)))
theorem o29:Okt Tryz.prog Tb29:=st1 znm Tryz.f191 (fun R kk x0 K=>zjd x0 (zjc R kk kk (zt6 R kk K))) o28 (ek _ _ _ _) Tryz.func191 (by kernel_rfl) rfl (fun _ _ _ _ _ _ h=>z1hx (fun _=>h _ _) (fun _=>h _ _)) (fun _ _ _ _=>by kernel_rfl) fun R kk e x0 K=>by
 simp only[Q232,zjd,zt7,zt8,z1c0 (hF:=e),z16b,z16c,nn_,←e]
def z1ja:Env:=e0 [y9,.str]
def Tb30:Funs:=Tb29.add 135 [y9,.str] (pu2 y9 .str Q219 (fun _ r K=>K [tI r] none))
theorem o30:Okt Tryz.prog Tb30:=st2 z1ja Tryz.f135 (fun R kk x0 x1 K=>ziv x0 x1 (fun a0=>K [tI a0] none)) o29 (ek _ _ _ _) Tryz.func135 (by kernel_rfl) rfl (fun _ _ _ _ _ _ h=>h _ _) (fun _ _ _ _ _=>by kernel_rfl) fun R kk e x0 x1 K=>by
 simp only[Q219,ziv,nn_]
def z1iv:Env:=e0 [y18,(.int .i64),y9]
def Tb31:Funs:=Tb30.add 75 [y18,(.int .i64),y9] (pu3 y18 (.int .i64) y9 Q190 (fun _ r K=>K [tI r] none))
theorem o31:Okt Tryz.prog Tb31:=st3 z1iv Tryz.f75 (fun R kk x0 x1 x2 K=>zi4 x0 x1 x2 (fun a0=>K [tI a0] none)) o30 (ek _ _ _ _) Tryz.func75 (by kernel_rfl) rfl (fun _ _ _ _ _ _ h=>h _ _) (fun _ _ _ _ _ _=>by kernel_rfl) fun R kk e x0 x1 x2 K=>by
 simp only[Q190,zi4,nn_]
def z7n:Env:=tab.env (fun i=>bif Nat.beq i 8 then [1,7,33,34] else bif Nat.beq i 16 then [1,7,11,46,47,48] else []) (fun i=>bif Nat.beq i 8 then [1,2,3,4,7] else bif Nat.beq i 16 then [1,2,3,4,11] else []) [] [y18]
def zhv(a b:Int)(c:Zt26)(d:Zt13):Option R:=loopR (ev z7n (Tb31 R) kk (sub [1,1,1,1,0,1,0,0] (cd Tryz.f30))) [1,7,33,34] [1,2,3,4,7] k ⟨uS 1 ([.ptr 2 y18 []]::uS 5 ([.ptr 8 y9 []]::uS 25 ([tI a]::[tI b]::uS 38 []))),nS 2 ((some ⟨y18,c,[]⟩)::nS 5 ((some ⟨y9,d,[]⟩)::nS 65 []))⟩ J
def zcv(a b c:Int)(d:Zt26)(e:Zt13):State:=⟨uS 1 ([.ptr 2 y18 []]::[tI a]::[tI b]::[tI c]::uS 2 ([.ptr 8 y9 []]::uS 65 [])),nS 2 ((some ⟨y18,d,[]⟩)::nS 5 ((some ⟨y9,e,[]⟩)::nS 65 []))⟩
def zcw(a:Zt26)(b:Zt13):State:=⟨uS 1 ([.ptr 2 y18 []]::uS 5 ([.ptr 8 y9 []]::uS 65 [])),nS 2 ((some ⟨y18,a,[]⟩)::nS 5 ((some ⟨y9,b,[]⟩)::nS 65 []))⟩
def zs2:KX R:=(zl 0 (kSeq z7n (Tb31 R) kk (sub [1,1,1,1,1] (cd Tryz.f30)) (kFin z7n Tryz.f30.results.toList none K)))
def zhw(a:Bool)(b:Zt12)(c d:Int)(e:Zt26)(f:Zt13):Option R:=loopR (ev z7n (Tb31 R) kk (sub [1,1,1,1,1,1,0,1,0,0] (cd Tryz.f30))) [1,7,11,46,47,48] [1,2,3,4,11] k ⟨uS 1 ([.ptr 2 y18 []]::uS 5 ([.ptr 8 y9 []]::uS 3 ([tB a]::uS 34 ([.dat (.sl 96 (.pair (.int .i64) (.pair .str .unit))) b []]::[tI c]::[tI d]::uS 24 [])))),nS 2 ((some ⟨y18,e,[]⟩)::nS 5 ((some ⟨y9,f,[]⟩)::nS 65 []))⟩ J
def zcx(a b c:Int)(d:Bool)(e:Zt26):State:=⟨uS 1 ([.ptr 2 y18 []]::[tI a]::[tI b]::[tI c]::uS 6 ([tB d]::uS 61 [])),nS 2 ((some ⟨y18,e,[]⟩)::nS 71 [])⟩
def zcy(a:Bool)(b:Zt26):State:=⟨uS 1 ([.ptr 2 y18 []]::uS 9 ([tB a]::uS 61 [])),nS 2 ((some ⟨y18,b,[]⟩)::nS 71 [])⟩
def zs3:KX R:=(zl 2 (kSeq z7n (Tb31 R) kk (sub [1,1,1,1,1,1,1] (cd Tryz.f30)) (kFin z7n Tryz.f30.results.toList none K)))
theorem z1fz(a b:Int)(c:Zt26)(d:Zt13):zhv R kk (k+1) J a b c d=
 z9m a b c d (fun a0 a1 a2 a3 a4=>J .ret (zcv a0 a1 a2 a3 a4)) (zhv R kk k J) (fun a0 a1=>J (.exit 0) (zcw a0 a1)):=by kernel_rfl
theorem z15k(a b c:Int)(d:Zt26)(e:Zt13):zs2 R kk K .ret (zcv a b c d e)=
 zs4 a b c d e (fun a0 a1 a2=>K [tI a0,tI a1,tI a2] none):=by kernel_rfl
theorem z15l(a:Zt26)(b:Zt13):zs2 R kk K (.exit 0) (zcw a b)=
 zhy a b (zhw R kk kk (zs3 R kk K)):=by kernel_rfl
theorem z1g0(a:Bool)(b:Zt12)(c d:Int)(e:Zt26)(f:Zt13):zhw R kk (k+1) J a b c d e f=
 z9n a b c d e f (fun a0 a1 a2 a3 a4=>J .ret (zcx a0 a1 a2 a3 a4)) (zhw R kk k J) (fun a0 a1=>J (.exit 2) (zcy a0 a1)):=by kernel_rfl
theorem z15m(a b c:Int)(d:Bool)(e:Zt26):zs3 R kk K .ret (zcx a b c d e)=
 zs5 a b c d e (fun a0 a1 a2=>K [tI a0,tI a1,tI a2] none):=by kernel_rfl
theorem z15n(a:Bool)(b:Zt26):zs3 R kk K (.exit 2) (zcy a b)=
 zhz a b (fun a0 a1 a2=>K [tI a0,tI a1,tI a2] none):=by kernel_rfl
theorem z1bi{kk:Nat}(hF:kk=FUEL)(t33 t34:Int)(bt1:Zt26)(bt7:Zt13):zhv R kk k J t33 t34 bt1 bt7=(z5x k t33 t34 bt1 bt7).bind fun e=>(Sum.elim (fun(we:(Int×Int×Int×Zt26×Zt13))=>J .ret (zcv we.1 we.2.1 we.2.2.1 we.2.2.2.1 we.2.2.2.2)) (fun(we:(Zt26×Zt13))=>J (.exit 0) (zcw we.1 we.2)) e):=by
 induction k generalizing t33 t34 bt1 bt7 with
 |zero=>rfl
 |succ k ih=>
  rw[z1fz]
  simp only[z5x,z9m,ih,nn_]
theorem z1bj{kk:Nat}(hF:kk=FUEL)(t11:Bool)(t46:Zt12)(t47 t48:Int)(bt1:Zt26)(bt7:Zt13):zhw R kk k J t11 t46 t47 t48 bt1 bt7=(z5y k t11 t46 t47 t48 bt1 bt7).bind fun e=>(Sum.elim (fun(we:(Int×Int×Int×Bool×Zt26))=>J .ret (zcx we.1 we.2.1 we.2.2.1 we.2.2.2.1 we.2.2.2.2)) (fun(we:(Bool×Zt26))=>J (.exit 2) (zcy we.1 we.2)) e):=by
 induction k generalizing t11 t46 t47 t48 bt1 bt7 with
 |zero=>rfl
 |succ k ih=>
  rw[z1g0]
  simp only[z5y,z9n,ih,nn_]
def Tb32:Funs:=Tb31.add 30 [y18] (pu1 y18 Q188 (fun _ r K=>K [tI r.1,tI r.2.1,tI r.2.2] none))
theorem o32:Okt Tryz.prog Tb32:=st1 z7n Tryz.f30 (fun R kk x0 K=>zhx x0 (fun a0 a1 a2=>K [tI a0,tI a1,tI a2] none) (zhv R kk kk (zs2 R kk K))) o31 (ek _ _ _ _) Tryz.func30 (by kernel_rfl) rfl (fun _ _ _ _ _ _ h=>h _ _) (fun _ _ _ _=>by kernel_rfl) fun R kk e x0 K=>by
 simp only[Q188,zhx,zs4,zhy,zs5,zhz,z1bi (hF:=e),z1bj (hF:=e),z15k,z15l,z15m,z15n,nn_,←e]
def Q28_E:Env:=tab.env (fun i=>bif Nat.beq i 2 then [6] else []) (fun i=>bif Nat.beq i 2 then [2] else []) [] [.str]
def zns(a:Zt0):Option R:=loopR (ev Q28_E (Tb32 R) kk (sub [1,0,1,0,0] (cd Tryz.f199))) [6] [2] k ⟨uS 6 ([.ptr 7 (.spc .iter .unit .unit) []]::uS 9 []),nS 7 ((some ⟨(.spc .iter .unit .unit),a,[]⟩)::nS 9 [])⟩ J
def zlb(a:Bool):State:=⟨uS 2 ([tB a]::uS 13 []),nS 17 []⟩
def zlc:State:=⟨uS 16 [],nS 17 []⟩
def zxv:KX R:=(zl 0 (kSeq Q28_E (Tb32 R) kk (sub [1,1] (cd Tryz.f199)) (kFin Q28_E Tryz.f199.results.toList none K)))
theorem z1jn(a:Zt0):zns R kk (k+1) J a=
 znu a (fun a0=>J .ret (zlb a0)) (zns R kk k J) (J (.exit 0) (zlc)):=by kernel_rfl
theorem z1ca(a:Bool):zxv R kk K .ret (zlb a)=
 zxw a (fun a0=>K [tB a0] none):=by kernel_rfl
theorem z1cb:zxv R kk K (.exit 0) (zlc)=
 zxx (fun a0=>K [tB a0] none):=by kernel_rfl
theorem z1gq{kk:Nat}(hF:kk=FUEL)(bt6:Zt0):zns R kk k J bt6=(za2 k bt6).bind fun e=>(Sum.elim (fun(we:Bool)=>J .ret (zlb we)) (fun(we:Unit)=>J (.exit 0) (zlc)) e):=by
 induction k generalizing bt6 with
 |zero=>rfl
 |succ k ih=>
  rw[z1jn]
  simp only[za2,znu,ih,nn_]
def Tb33:Funs:=Tb32.add 199 [.str] (pu1 .str Q28 (fun _ r K=>K [tB r] none))
theorem o33:Okt Tryz.prog Tb33:=st1 Q28_E Tryz.f199 (fun R kk x0 K=>znt x0 (zns R kk kk (zxv R kk K))) o32 (ek _ _ _ _) Tryz.func199 (by kernel_rfl) rfl (fun _ _ _ _ _ _ h=>h _ _) (fun _ _ _ _=>by kernel_rfl) fun R kk e x0 K=>by
 simp only[Q28,znt,zxw,zxx,z1gq (hF:=e),z1ca,z1cb,nn_,←e]
def z1ip:Env:=e0 [.str]
def Tb34:Funs:=Tb33.add 153 [.str] (pu1 .str Q180 (fun _ r K=>K [tB r] none))
theorem o34:Okt Tryz.prog Tb34:=st1 z1ip Tryz.f153 (fun R kk x0 K=>zhm x0 (fun a0=>K [tB a0] none)) o33 (ek _ _ _ _) Tryz.func153 (by kernel_rfl) rfl (fun _ _ _ _ _ _ h=>h _ _) (fun _ _ _ _=>by kernel_rfl) fun R kk e x0 K=>by
 simp only[Q180,zhm,nn_]
def z1iq:Env:=e0 [.str]
def Tb35:Funs:=Tb34.add 136 [.str] (pu1 .str Q181 (fun _ r K=>K [tI r.1,tB r.2] none))
theorem o35:Okt Tryz.prog Tb35:=st1 z1iq Tryz.f136 (fun R kk x0 K=>zhn x0 (fun a0 a1=>K [tI a0,tB a1] none)) o34 (ek _ _ _ _) Tryz.func136 (by kernel_rfl) rfl (fun _ _ _ _ _ _ h=>h _ _) (fun _ _ _ _=>by kernel_rfl) fun R kk e x0 K=>by
 simp only[Q181,zhn,nn_]
def z1in:Env:=e0 [.str]
def Tb36:Funs:=Tb35.add 137 [.str] (pu1 .str Q178 (fun _ r K=>K [tB r] none))
theorem o36:Okt Tryz.prog Tb36:=st1 z1in Tryz.f137 (fun R kk x0 K=>zhk x0 (fun a0=>K [tB a0] none)) o35 (ek _ _ _ _) Tryz.func137 (by kernel_rfl) rfl (fun _ _ _ _ _ _ h=>h _ _) (fun _ _ _ _=>by kernel_rfl) fun R kk e x0 K=>by
 simp only[Q178,zhk,nn_]
def z1jm:Env:=e0 [(.pair .str (.pair .str .unit)),y15,y15]
def Tb37:Funs:=Tb36.add 76 [(.pair .str (.pair .str .unit)),y15,y15] (pu3 (.pair .str (.pair .str .unit)) y15 y15 Q245 (fun _ r K=>K [tB r] none))
theorem o37:Okt Tryz.prog Tb37:=st3 z1jm Tryz.f76 (fun R kk x0 x1 x2 K=>zjy x0 x1 x2 (fun a0=>K [tB a0] none)) o36 (ek _ _ _ _) Tryz.func76 (by kernel_rfl) rfl (fun _ _ _ _ _ _ h=>h _ _) (fun _ _ _ _ _ _=>by kernel_rfl) fun R kk e x0 x1 x2 K=>by
 simp only[Q245,zjy,nn_]
def z1j4:Env:=tab.env (fun _=>[]) (fun _=>[]) [6,7] [y12,y15,y15]
def Tb38:Funs:=Tb37.add 138 [y12,y15,y15] (pu3 y12 y15 y15 Q207 (fun _ r K=>K [.dat y9 r.1 [],.dat y9 r.2.1 [],tI r.2.2] none))
theorem o38:Okt Tryz.prog Tb38:=st3 z1j4 Tryz.f138 (fun R kk x0 x1 x2 K=>zid x0 x1 x2 (fun a0 a1 a2=>K [.dat y9 a0 [],.dat y9 a1 [],tI a2] none)) o37 (ek _ _ _ _) Tryz.func138 (by kernel_rfl) rfl (fun _ _ _ _ _ _ h=>h _ _) (fun _ _ _ _ _ _=>by kernel_rfl) fun R kk e x0 x1 x2 K=>by
 simp only[Q207,zid,nn_]
def Q17_E:Env:=e0 [(.int .i64),(.int .i64)]
def Tb39:Funs:=Tb38.add 210 [(.int .i64),(.int .i64)] (pu2 (.int .i64) (.int .i64) Q17 (fun _ r K=>K [tB r] none))
theorem o39:Okt Tryz.prog Tb39:=st2 Q17_E Tryz.f210 (fun R kk x0 x1 K=>zn3 x0 x1 (fun a0=>K [tB a0] none)) o38 (ek _ _ _ _) Tryz.func210 (by kernel_rfl) rfl (fun _ _ _ _ _ _ h=>h _ _) (fun _ _ _ _ _=>by kernel_rfl) fun R kk e x0 x1 K=>by
 simp only[Q17,zn3,nn_]
def z1jc:Env:=e0 [(.int .i64),(.int .i64)]
def Tb40:Funs:=Tb39.add 185 [(.int .i64),(.int .i64)] (pu2 (.int .i64) (.int .i64) Q221 (fun _ r K=>K [tB r] none))
theorem o40:Okt Tryz.prog Tb40:=st2 z1jc Tryz.f185 (fun R kk x0 x1 K=>zix x0 x1 (fun a0=>K [tB a0] none)) o39 (ek _ _ _ _) Tryz.func185 (by kernel_rfl) rfl (fun _ _ _ _ _ _ h=>h _ _) (fun _ _ _ _ _=>by kernel_rfl) fun R kk e x0 x1 K=>by
 simp only[Q221,zix,nn_]
def z1jb:Env:=e0 [y9,y9]
def Tb41:Funs:=Tb40.add 127 [y9,y9] (pu2 y9 y9 Q220 (fun _ r K=>K [tB r] none))
theorem o41:Okt Tryz.prog Tb41:=st2 z1jb Tryz.f127 (fun R kk x0 x1 K=>ziw x0 x1 (fun a0=>K [tB a0] none)) o40 (ek _ _ _ _) Tryz.func127 (by kernel_rfl) rfl (fun _ _ _ _ _ _ h=>h _ _) (fun _ _ _ _ _=>by kernel_rfl) fun R kk e x0 x1 K=>by
 simp only[Q220,ziw,nn_]
def z1j5:Env:=e0 [y9]
def Tb42:Funs:=Tb41.add 139 [y9] (pu1 y9 Q208 (fun _ r K=>K [tB r] none))
theorem o42:Okt Tryz.prog Tb42:=st1 z1j5 Tryz.f139 (fun R kk x0 K=>zie x0 (fun a0=>K [tB a0] none)) o41 (ek _ _ _ _) Tryz.func139 (by kernel_rfl) rfl (fun _ _ _ _ _ _ h=>h _ _) (fun _ _ _ _=>by kernel_rfl) fun R kk e x0 K=>by
 simp only[Q208,zie,nn_]
def Q22_E:Env:=tab.env (fun i=>bif Nat.beq i 5 then [4,10,11,12,13] else []) (fun i=>bif Nat.beq i 5 then [2,3] else []) [] [(.sl 116 (.pair .str (.pair .str .unit)))]
def znk(a:Zt14)(b c:Int)(d:Zt10):Option R:=loopR (ev Q22_E (Tb42 R) kk (sub [1,1,1,0,1,0,0] (cd Tryz.f126))) [4,10,11,12,13] [2,3] k ⟨uS 4 ([.ptr 11 (.spc .mp .str .bool) []]::uS 5 ([.ptr 11 (.spc .mp .str .bool) []]::[.dat (.sl 116 (.pair .str (.pair .str .unit))) a []]::[tI b]::[tI c]::uS 13 [])),nS 11 ((some ⟨(.spc .mp .str .bool),d,[]⟩)::nS 16 [])⟩ J
def zl8(a b:Int):State:=⟨uS 2 ([tI a]::[tI b]::uS 23 []),nS 28 []⟩
def zl9:State:=⟨uS 27 [],nS 28 []⟩
def zxp:KX R:=(zl 0 (kSeq Q22_E (Tb42 R) kk (sub [1,1,1,1] (cd Tryz.f126)) (kFin Q22_E Tryz.f126.results.toList none K)))
theorem z1jg(a:Zt14)(b c:Int)(d:Zt10):znk R kk (k+1) J a b c d=
 zxq a b c d (fun a0 a1=>J .ret (zl8 a0 a1)) (znk R kk k J) (J (.exit 0) (zl9)):=by kernel_rfl
theorem z1by(a b:Int):zxp R kk K .ret (zl8 a b)=
 zxr a b (fun a0 a1=>K [tI a0,tI a1] none):=by kernel_rfl
theorem z1bz:zxp R kk K (.exit 0) (zl9)=
 zxs (fun a0 a1=>K [tI a0,tI a1] none):=by kernel_rfl
theorem z1gf{kk:Nat}(hF:kk=FUEL)(t11:Zt14)(t12 t13:Int)(bt4:Zt10):znk R kk k J t11 t12 t13 bt4=(zdm k t11 t12 t13 bt4).bind fun e=>(Sum.elim (fun(we:(Int×Int))=>J .ret (zl8 we.1 we.2)) (fun(we:Unit)=>J (.exit 0) (zl9)) e):=by
 induction k generalizing t11 t12 t13 bt4 with
 |zero=>rfl
 |succ k ih=>
  rw[z1jg]
  simp only[zdm,zxq,ih,nn_]
def Tb43:Funs:=Tb42.add 126 [(.sl 116 (.pair .str (.pair .str .unit)))] (pu1 (.sl 116 (.pair .str (.pair .str .unit))) Q22 (fun _ r K=>K [tI r.1,tI r.2] none))
theorem o43:Okt Tryz.prog Tb43:=st1 Q22_E Tryz.f126 (fun R kk x0 K=>znl x0 (fun a0 a1=>K [tI a0,tI a1] none) (znk R kk kk (zxp R kk K))) o42 (ek _ _ _ _) Tryz.func126 (by kernel_rfl) rfl (fun _ _ _ _ _ _ h=>h _ _) (fun _ _ _ _=>by kernel_rfl) fun R kk e x0 K=>by
 simp only[Q22,znl,zxr,zxs,z1gf (hF:=e),z1by,z1bz,nn_,←e]
def zn8:Env:=tab.env (fun i=>bif Nat.beq i 5 then [4,5,25,26,27] else []) (fun i=>bif Nat.beq i 5 then [6] else []) [] [(.sl 116 (.pair .str (.pair .str .unit))),y9,y9]
def zif(a:Zt14)(b c:Int)(d e:Zt13):Option R:=loopR (ev zn8 (Tb43 R) kk (sub [1,1,0,1,0,0] (cd Tryz.f140))) [4,5,25,26,27] [6] k ⟨uS 4 ([.ptr 5 y9 []]::[.ptr 6 y9 []]::uS 19 ([.dat (.sl 116 (.pair .str (.pair .str .unit))) a []]::[tI b]::[tI c]::uS 18 [])),nS 5 ((some ⟨y9,d,[]⟩)::(some ⟨y9,e,[]⟩)::nS 40 [])⟩ J
def zd5(a:Int):State:=⟨uS 6 ([tI a]::uS 39 []),nS 47 []⟩
def zd6:State:=⟨uS 46 [],nS 47 []⟩
def zsh:KX R:=(zl 0 (kSeq zn8 (Tb43 R) kk (sub [1,1,1] (cd Tryz.f140)) (kFin zn8 Tryz.f140.results.toList none K)))
theorem z1g5(a:Zt14)(b c:Int)(d e:Zt13):zif R kk (k+1) J a b c d e=
 zsi a b c d e (fun a0=>J .ret (zd5 a0)) (zif R kk k J) (J (.exit 0) (zd6)):=by kernel_rfl
theorem z15u(a:Int):zsh R kk K .ret (zd5 a)=
 zsj a (fun a0=>K [tI a0] none):=by kernel_rfl
theorem z15v:zsh R kk K (.exit 0) (zd6)=
 zsk (fun a0=>K [tI a0] none):=by kernel_rfl
theorem z1bn{kk:Nat}(hF:kk=FUEL)(t25:Zt14)(t26 t27:Int)(bt4 bt5:Zt13):zif R kk k J t25 t26 t27 bt4 bt5=(z9p k t25 t26 t27 bt4 bt5).bind fun e=>(Sum.elim (fun(we:Int)=>J .ret (zd5 we)) (fun(we:Unit)=>J (.exit 0) (zd6)) e):=by
 induction k generalizing t25 t26 t27 bt4 bt5 with
 |zero=>rfl
 |succ k ih=>
  rw[z1g5]
  simp only[z9p,zsi,ih,nn_]
def Tb44:Funs:=Tb43.add 140 [(.sl 116 (.pair .str (.pair .str .unit))),y9,y9] (pu3 (.sl 116 (.pair .str (.pair .str .unit))) y9 y9 Q209 (fun _ r K=>K [tI r] none))
theorem o44:Okt Tryz.prog Tb44:=st3 zn8 Tryz.f140 (fun R kk x0 x1 x2 K=>zig x0 x1 x2 (fun a0=>K [tI a0] none) (zif R kk kk (zsh R kk K))) o43 (ek _ _ _ _) Tryz.func140 (by kernel_rfl) rfl (fun _ _ _ _ _ _ h=>h _ _) (fun _ _ _ _ _ _=>by kernel_rfl) fun R kk e x0 x1 x2 K=>by
 simp only[Q209,zig,zsj,zsk,z1bn (hF:=e),z15u,z15v,nn_,←e]
def z1j3:Env:=e0 [y12,y15,y15]
def Tb45:Funs:=Tb44.add 77 [y12,y15,y15] (pu3 y12 y15 y15 Q206 (fun _ r K=>K [tI r] none))
theorem o45:Okt Tryz.prog Tb45:=st3 z1j3 Tryz.f77 (fun R kk x0 x1 x2 K=>zic x0 x1 x2 (fun a0=>K [tI a0] none)) o44 (ek _ _ _ _) Tryz.func77 (by kernel_rfl) rfl (fun _ _ _ _ _ _ h=>h _ _) (fun _ _ _ _ _ _=>by kernel_rfl) fun R kk e x0 x1 x2 K=>by
 simp only[Q206,zic,nn_]
def Q42_E:Env:=tab.env (fun _=>[]) (fun _=>[]) [2] [(.int .i64)]
def Tb46:Funs:=Tb45.add 192 [(.int .i64)] (pu1 (.int .i64) Q42 (fun _ r K=>K [.dat (.pair (.int .u64) (.pair (.int .u64) .unit)) r []] none))
theorem o46:Okt Tryz.prog Tb46:=st1 Q42_E Tryz.f192 (fun R kk x0 K=>zo9 x0 (fun a0=>K [.dat (.pair (.int .u64) (.pair (.int .u64) .unit)) a0 []] none)) o45 (ek _ _ _ _) Tryz.func192 (by kernel_rfl) rfl (fun _ _ _ _ _ _ h=>h _ _) (fun _ _ _ _=>by kernel_rfl) fun R kk e x0 K=>by
 simp only[Q42,zo9,nn_]
def Q35_E:Env:=tab.env (fun _=>[]) (fun _=>[]) [4] [(.pair (.int .u64) (.pair (.int .u64) .unit)),(.pair (.int .u64) (.pair (.int .u64) .unit))]
def Tb47:Funs:=Tb46.add 80 [(.pair (.int .u64) (.pair (.int .u64) .unit)),(.pair (.int .u64) (.pair (.int .u64) .unit))] (pu2 (.pair (.int .u64) (.pair (.int .u64) .unit)) (.pair (.int .u64) (.pair (.int .u64) .unit)) Q35 (fun _ r K=>K [.dat (.pair (.int .u64) (.pair (.int .u64) .unit)) r []] none))
theorem o47:Okt Tryz.prog Tb47:=st2 Q35_E Tryz.f80 (fun R kk x0 x1 K=>zo5 x0 x1 (fun a0=>K [.dat (.pair (.int .u64) (.pair (.int .u64) .unit)) a0 []] none)) o46 (ek _ _ _ _) Tryz.func80 (by kernel_rfl) rfl (fun _ _ _ _ _ _ h=>h _ _) (fun _ _ _ _ _=>by kernel_rfl) fun R kk e x0 x1 K=>by
 simp only[Q35,zo5,nn_]
def Q40_E:Env:=tab.env (fun _=>[]) (fun _=>[]) [4] [(.pair (.int .u64) (.pair (.int .u64) .unit)),(.int .i64)]
def Tb48:Funs:=Tb47.add 141 [(.pair (.int .u64) (.pair (.int .u64) .unit)),(.int .i64)] (pu2 (.pair (.int .u64) (.pair (.int .u64) .unit)) (.int .i64) Q40 (fun _ r K=>K [.dat (.pair (.int .u64) (.pair (.int .u64) .unit)) r []] none))
theorem o48:Okt Tryz.prog Tb48:=st2 Q40_E Tryz.f141 (fun R kk x0 x1 K=>zo8 x0 x1 (fun a0=>K [.dat (.pair (.int .u64) (.pair (.int .u64) .unit)) a0 []] none)) o47 (ek _ _ _ _) Tryz.func141 (by kernel_rfl) rfl (fun _ _ _ _ _ _ h=>h _ _) (fun _ _ _ _ _=>by kernel_rfl) fun R kk e x0 x1 K=>by
 simp only[Q40,zo8,nn_]
def Q33_E:Env:=tab.env (fun i=>bif Nat.beq i 3 then [2,3,6,7,8] else []) (fun i=>bif Nat.beq i 3 then [2,3] else []) [2] [(.sl 3 (.int .i64))]
def zo2(a:(List Int))(b c:Int)(d e:Zt6):Option R:=loopR (ev Q33_E (Tb48 R) kk (sub [1,1,0,1,0,0] (cd Tryz.f78))) [2,3,6,7,8] [2,3] k ⟨uS 2 ([.ptr 3 (.pair (.int .u64) (.pair (.int .u64) .unit)) []]::[.ptr 4 (.pair (.int .u64) (.pair (.int .u64) .unit)) []]::uS 2 ([.dat (.sl 3 (.int .i64)) a []]::[tI b]::[tI c]::uS 8 [])),nS 3 ((some ⟨(.pair (.int .u64) (.pair (.int .u64) .unit)),d,[]⟩)::(some ⟨(.pair (.int .u64) (.pair (.int .u64) .unit)),e,[]⟩)::nS 13 [])⟩ J
def zlf(a b:Zt6):State:=⟨uS 2 ([.ptr 3 (.pair (.int .u64) (.pair (.int .u64) .unit)) []]::[.ptr 4 (.pair (.int .u64) (.pair (.int .u64) .unit)) []]::uS 13 []),nS 3 ((some ⟨(.pair (.int .u64) (.pair (.int .u64) .unit)),a,[]⟩)::(some ⟨(.pair (.int .u64) (.pair (.int .u64) .unit)),b,[]⟩)::nS 13 [])⟩
def z16u:KX R:=(zl 0 (kSeq Q33_E (Tb48 R) kk (sub [1,1,1] (cd Tryz.f78)) (kFin Q33_E Tryz.f78.results.toList none K)))
theorem z1jq(a:(List Int))(b c:Int)(d e:Zt6):zo2 R kk (k+1) J a b c d e=
 ze5 a b c d e (zo2 R kk k J) (fun a0 a1=>J (.exit 0) (zlf a0 a1)):=by kernel_rfl
theorem z1ce(a b:Zt6):z16u R kk K (.exit 0) (zlf a b)=
 zo4 a b (fun a0=>K [.dat (.pair (.int .u64) (.pair (.int .u64) .unit)) a0 []] none):=by kernel_rfl
theorem z1gt{kk:Nat}(hF:kk=FUEL)(t6:(List Int))(t7 t8:Int)(bt2 bt3:Zt6):zo2 R kk k J t6 t7 t8 bt2 bt3=(z6d k t6 t7 t8 bt2 bt3).bind fun e=>J (.exit 0) (zlf e.1 e.2):=by
 induction k generalizing t6 t7 t8 bt2 bt3 with
 |zero=>rfl
 |succ k ih=>
  rw[z1jq]
  simp only[z6d,ze5,ih,nn_]
def Tb49:Funs:=Tb48.add 78 [(.sl 3 (.int .i64))] (pu1 (.sl 3 (.int .i64)) Q33 (fun _ r K=>K [.dat (.pair (.int .u64) (.pair (.int .u64) .unit)) r []] none))
theorem o49:Okt Tryz.prog Tb49:=st1 Q33_E Tryz.f78 (fun R kk x0 K=>zo3 x0 (zo2 R kk kk (z16u R kk K))) o48 (ek _ _ _ _) Tryz.func78 (by kernel_rfl) rfl (fun _ _ _ _ _ _ h=>h _ _) (fun _ _ _ _=>by kernel_rfl) fun R kk e x0 K=>by
 simp only[Q33,zo3,zo4,z1gt (hF:=e),z1ce,nn_,←e]
def Q34_E:Env:=tab.env (fun _=>[]) (fun _=>[]) [4] [(.pair (.int .u64) (.pair (.int .u64) .unit)),(.pair (.int .u64) (.pair (.int .u64) .unit))]
def Tb50:Funs:=Tb49.add 79 [(.pair (.int .u64) (.pair (.int .u64) .unit)),(.pair (.int .u64) (.pair (.int .u64) .unit))] (pu2 (.pair (.int .u64) (.pair (.int .u64) .unit)) (.pair (.int .u64) (.pair (.int .u64) .unit)) Q34 (fun _ r K=>K [.dat (.pair (.int .u64) (.pair (.int .u64) .unit)) r []] none))
theorem o50:Okt Tryz.prog Tb50:=st2 Q34_E Tryz.f79 (fun R kk x0 x1 K=>ze6 x0 x1 (fun a0=>K [.dat (.pair (.int .u64) (.pair (.int .u64) .unit)) a0 []] none)) o49 (ek _ _ _ _) Tryz.func79 (by kernel_rfl) rfl (fun _ _ _ _ _ _ h=>h _ _) (fun _ _ _ _ _=>by kernel_rfl) fun R kk e x0 x1 K=>by
 simp only[Q34,ze6,nn_]
def z4n:Env:=tab.env (fun i=>bif Nat.beq i 2 then [3,4,5,26,27,28] else bif Nat.beq i 12 then [3,4,5,13,46,48,49,50] else bif Nat.beq i 24 then [4,5,16,17,77,78,79] else []) (fun i=>bif Nat.beq i 2 then [3,4,5,6,7,8] else bif Nat.beq i 12 then [3,4,5,6,7,8] else bif Nat.beq i 24 then [6,7,8] else []) [] [y16,y15,y15]
def zjj(a:Zt19)(b c:Int)(d:Zt24)(e f:Zt18):Option R:=loopR (ev z4n (Tb50 R) kk (sub [1,0,1,0,0] (cd Tryz.f31))) [3,4,5,26,27,28] [3,4,5,6,7,8] k ⟨uS 3 ([.ptr 4 y16 []]::[.ptr 5 y15 []]::[.ptr 6 y15 []]::uS 20 ([.dat (.sl 24 y15) a [[]]]::[tI b]::[tI c]::uS 92 [])),nS 4 ((some ⟨y16,d,[]⟩)::(some ⟨y15,e,[]⟩)::(some ⟨y15,f,[]⟩)::nS 115 [])⟩ J
def zdr(a b c:Int)(d:Zt24)(e f:Zt18):State:=⟨uS 3 ([.ptr 4 y16 []]::[.ptr 5 y15 []]::[.ptr 6 y15 []]::[tI a]::[tI b]::[tI c]::uS 112 []),nS 4 ((some ⟨y16,d,[]⟩)::(some ⟨y15,e,[]⟩)::(some ⟨y15,f,[]⟩)::nS 115 [])⟩
def zds(a:Zt24)(b c:Zt18):State:=⟨uS 3 ([.ptr 4 y16 []]::[.ptr 5 y15 []]::[.ptr 6 y15 []]::uS 115 []),nS 4 ((some ⟨y16,a,[]⟩)::(some ⟨y15,b,[]⟩)::(some ⟨y15,c,[]⟩)::nS 115 [])⟩
def ztb:KX R:=(zl 0 (kSeq z4n (Tb50 R) kk (sub [1,1] (cd Tryz.f31)) (kFin z4n Tryz.f31.results.toList none K)))
def zjk(a:Zt14)(b c:Int)(d:Zt24)(e f:Zt18)(g:Zt10):Option R:=loopR (ev z4n (Tb50 R) kk (sub [1,1,1,1,0,1,0,0] (cd Tryz.f31))) [3,4,5,13,46,48,49,50] [3,4,5,6,7,8] k ⟨uS 3 ([.ptr 4 y16 []]::[.ptr 5 y15 []]::[.ptr 6 y15 []]::uS 7 ([.ptr 47 (.spc .mp .str .bool) []]::uS 32 ([.ptr 47 (.spc .mp .str .bool) []]::uS 1 ([.dat (.sl 116 (.pair .str (.pair .str .unit))) a []]::[tI b]::[tI c]::uS 70 [])))),nS 4 ((some ⟨y16,d,[]⟩)::(some ⟨y15,e,[]⟩)::(some ⟨y15,f,[]⟩)::nS 40 ((some ⟨(.spc .mp .str .bool),g,[]⟩)::nS 74 []))⟩ J
def zdt(a b c:Int)(d:Zt24)(e f:Zt18):State:=⟨uS 3 ([.ptr 4 y16 []]::[.ptr 5 y15 []]::[.ptr 6 y15 []]::[tI a]::[tI b]::[tI c]::uS 112 []),nS 4 ((some ⟨y16,d,[]⟩)::(some ⟨y15,e,[]⟩)::(some ⟨y15,f,[]⟩)::nS 115 [])⟩
def zdu(a:Zt24)(b c:Zt18):State:=⟨uS 3 ([.ptr 4 y16 []]::[.ptr 5 y15 []]::[.ptr 6 y15 []]::uS 115 []),nS 4 ((some ⟨y16,a,[]⟩)::(some ⟨y15,b,[]⟩)::(some ⟨y15,c,[]⟩)::nS 115 [])⟩
def ztc:KX R:=(zl 2 (kSeq z4n (Tb50 R) kk (sub [1,1,1,1,1] (cd Tryz.f31)) (kFin z4n Tryz.f31.results.toList none K)))
def zjl(a:Zt22)(b c:Int)(d e:Zt18)(f g:Zt6):Option R:=loopR (ev z4n (Tb50 R) kk (sub [1,1,1,1,1,1,1,0,1,0,0] (cd Tryz.f31))) [4,5,16,17,77,78,79] [6,7,8] k ⟨uS 4 ([.ptr 5 y15 []]::[.ptr 6 y15 []]::uS 10 ([.ptr 17 (.pair (.int .u64) (.pair (.int .u64) .unit)) []]::[.ptr 18 (.pair (.int .u64) (.pair (.int .u64) .unit)) []]::uS 59 ([.dat (.sl 59 y12) a []]::[tI b]::[tI c]::uS 41 []))),nS 5 ((some ⟨y15,d,[]⟩)::(some ⟨y15,e,[]⟩)::nS 10 ((some ⟨(.pair (.int .u64) (.pair (.int .u64) .unit)),f,[]⟩)::(some ⟨(.pair (.int .u64) (.pair (.int .u64) .unit)),g,[]⟩)::nS 103 []))⟩ J
def zdv(a b c:Int):State:=⟨uS 6 ([tI a]::[tI b]::[tI c]::uS 112 []),nS 122 []⟩
def zdw:State:=⟨uS 121 [],nS 122 []⟩
def ztd:KX R:=(zl 5 (kSeq z4n (Tb50 R) kk (sub [1,1,1,1,1,1,1,1] (cd Tryz.f31)) (kFin z4n Tryz.f31.results.toList none K)))
theorem z1gj(a:Zt19)(b c:Int)(d:Zt24)(e f:Zt18):zjj R kk (k+1) J a b c d e f=
 zjn a b c d e f (fun a0 a1 a2 a3 a4 a5=>J .ret (zdr a0 a1 a2 a3 a4 a5)) (zjj R kk k J) (fun a0 a1 a2=>J (.exit 0) (zds a0 a1 a2)):=by kernel_rfl
theorem z16f(a b c:Int)(d:Zt24)(e f:Zt18):ztb R kk K .ret (zdr a b c d e f)=
 zte a b c d e f (fun a0 a1 a2=>K [tI a0,tI a1,tI a2] none):=by kernel_rfl
theorem z16g(a:Zt24)(b c:Zt18):ztb R kk K (.exit 0) (zds a b c)=
 zjo a b c (fun a0 a1 a2=>K [tI a0,tI a1,tI a2] none) (zjk R kk kk (ztc R kk K)):=by kernel_rfl
theorem z1gk(a:Zt14)(b c:Int)(d:Zt24)(e f:Zt18)(g:Zt10):zjk R kk (k+1) J a b c d e f g=
 ztf a b c d e f g (fun a0 a1 a2 a3 a4 a5=>J .ret (zdt a0 a1 a2 a3 a4 a5)) (zjk R kk k J) (fun a0 a1 a2=>J (.exit 2) (zdu a0 a1 a2)):=by kernel_rfl
theorem z16h(a b c:Int)(d:Zt24)(e f:Zt18):ztc R kk K .ret (zdt a b c d e f)=
 ztg a b c d e f (fun a0 a1 a2=>K [tI a0,tI a1,tI a2] none):=by kernel_rfl
theorem z16i(a:Zt24)(b c:Zt18):ztc R kk K (.exit 2) (zdu a b c)=
 zjp a b c (fun a0 a1 a2=>K [tI a0,tI a1,tI a2] none) (zjl R kk kk (ztd R kk K)):=by kernel_rfl
theorem z1gl(a:Zt22)(b c:Int)(d e:Zt18)(f g:Zt6):zjl R kk (k+1) J a b c d e f g=
 zth a b c d e f g (fun a0 a1 a2=>J .ret (zdv a0 a1 a2)) (zjl R kk k J) (J (.exit 5) (zdw)):=by kernel_rfl
theorem z16j(a b c:Int):ztd R kk K .ret (zdv a b c)=
 zti a b c (fun a0 a1 a2=>K [tI a0,tI a1,tI a2] none):=by kernel_rfl
theorem z16k:ztd R kk K (.exit 5) (zdw)=
 ztj (fun a0 a1 a2=>K [tI a0,tI a1,tI a2] none):=by kernel_rfl
theorem z1c3{kk:Nat}(hF:kk=FUEL)(t26:Zt19)(t27 t28:Int)(bt3:Zt24)(bt4 bt5:Zt18):zjj R kk k J t26 t27 t28 bt3 bt4 bt5=(z7b k t26 t27 t28 bt3 bt4 bt5).bind fun e=>(Sum.elim (fun(we:Zt30)=>J .ret (zdr we.1 we.2.1 we.2.2.1 we.2.2.2.1 we.2.2.2.2.1 we.2.2.2.2.2)) (fun(we:Zt28)=>J (.exit 0) (zds we.1 we.2.1 we.2.2)) e):=by
 induction k generalizing t26 t27 t28 bt3 bt4 bt5 with
 |zero=>rfl
 |succ k ih=>
  rw[z1gj]
  simp only[z7b,zjn,ih,nn_]
theorem z1c4{kk:Nat}(hF:kk=FUEL)(t48:Zt14)(t49 t50:Int)(bt3:Zt24)(bt4 bt5:Zt18)(bt13:Zt10):zjk R kk k J t48 t49 t50 bt3 bt4 bt5 bt13=(z7c k t48 t49 t50 bt3 bt4 bt5 bt13).bind fun e=>(Sum.elim (fun(we:Zt30)=>J .ret (zdt we.1 we.2.1 we.2.2.1 we.2.2.2.1 we.2.2.2.2.1 we.2.2.2.2.2)) (fun(we:Zt28)=>J (.exit 2) (zdu we.1 we.2.1 we.2.2)) e):=by
 induction k generalizing t48 t49 t50 bt3 bt4 bt5 bt13 with
 |zero=>rfl
 |succ k ih=>
  rw[z1gk]
  simp only[z7c,ztf,ih,nn_]
theorem z1c5{kk:Nat}(hF:kk=FUEL)(t77:Zt22)(t78 t79:Int)(bt4 bt5:Zt18)(bt16 bt17:Zt6):zjl R kk k J t77 t78 t79 bt4 bt5 bt16 bt17=(z9x k t77 t78 t79 bt4 bt5 bt16 bt17).bind fun e=>(Sum.elim (fun(we:Zt1)=>J .ret (zdv we.1 we.2.1 we.2.2)) (fun(we:Unit)=>J (.exit 5) (zdw)) e):=by
 induction k generalizing t77 t78 t79 bt4 bt5 bt16 bt17 with
 |zero=>rfl
 |succ k ih=>
  rw[z1gl]
  simp only[z9x,zth,ih,nn_]
def Tb51:Funs:=Tb50.add 31 [y16,y15,y15] (pu3 y16 y15 y15 Q241 (fun _ r K=>K [tI r.1,tI r.2.1,tI r.2.2] none))
theorem o51:Okt Tryz.prog Tb51:=st3 z4n Tryz.f31 (fun R kk x0 x1 x2 K=>zjm x0 x1 x2 (zjj R kk kk (ztb R kk K))) o50 (ek _ _ _ _) Tryz.func31 (by kernel_rfl) rfl (fun _ _ _ _ _ _ h=>h _ _) (fun _ _ _ _ _ _=>by kernel_rfl) fun R kk e x0 x1 x2 K=>by
 simp only[Q241,zjm,zte,zjo,ztg,zjp,zti,ztj,z1c3 (hF:=e),z1c4 (hF:=e),z1c5 (hF:=e),z16f,z16g,z16h,z16i,z16j,z16k,nn_,←e]
def zn6:Env:=tab.env (fun i=>bif Nat.beq i 4 then [1,22,23] else []) (fun i=>bif Nat.beq i 4 then [2,3,4] else []) [] [y19]
def zi7(a:Zt27)(b:Int)(c:Zt29):Option R:=loopR (ev zn6 (Tb51 R) kk (sub [1,1,0,1,0,0] (cd Tryz.f11))) [1,22,23] [2,3,4] k ⟨uS 1 ([.ptr 2 y19 []]::uS 20 ([.dat (.arr 2 y18) a []]::[tI b]::uS 33 [])),nS 2 ((some ⟨y19,c,[]⟩)::nS 55 [])⟩ J
def zd3(a b c:Int):State:=⟨uS 2 ([tI a]::[tI b]::[tI c]::uS 52 []),nS 58 []⟩
def zd4:State:=⟨uS 57 [],nS 58 []⟩
def zsc:KX R:=(zl 0 (kSeq zn6 (Tb51 R) kk (sub [1,1,1] (cd Tryz.f11)) (kFin zn6 Tryz.f11.results.toList none K)))
theorem z1g3(a:Zt27)(b:Int)(c:Zt29):zi7 R kk (k+1) J a b c=
 z74 a b c (fun a0 a1 a2=>J .ret (zd3 a0 a1 a2)) (zi7 R kk k J) (J (.exit 0) (zd4)):=by kernel_rfl
theorem z15s(a b c:Int):zsc R kk K .ret (zd3 a b c)=
 zsd a b c (fun a0 a1 a2=>K [tI a0,tI a1,tI a2] none):=by kernel_rfl
theorem z15t:zsc R kk K (.exit 0) (zd4)=
 zse (fun a0 a1 a2=>K [tI a0,tI a1,tI a2] none):=by kernel_rfl
theorem z1bm{kk:Nat}(hF:kk=FUEL)(t22:Zt27)(t23:Int)(bt1:Zt29):zi7 R kk k J t22 t23 bt1=(z5z k t22 t23 bt1).bind fun e=>(Sum.elim (fun(we:Zt1)=>J .ret (zd3 we.1 we.2.1 we.2.2)) (fun(we:Unit)=>J (.exit 0) (zd4)) e):=by
 induction k generalizing t22 t23 bt1 with
 |zero=>rfl
 |succ k ih=>
  rw[z1g3]
  simp only[z5z,z74,ih,nn_]
def Tb52:Funs:=Tb51.add 11 [y19] (pu1 y19 Q194 (fun _ r K=>K [tI r.1,tI r.2.1,tI r.2.2] none))
theorem o52:Okt Tryz.prog Tb52:=st1 zn6 Tryz.f11 (fun R kk x0 K=>zi8 x0 (fun a0 a1 a2=>K [tI a0,tI a1,tI a2] none) (zi7 R kk kk (zsc R kk K))) o51 (ek _ _ _ _) Tryz.func11 (by kernel_rfl) rfl (fun _ _ _ _ _ _ h=>h _ _) (fun _ _ _ _=>by kernel_rfl) fun R kk e x0 K=>by
 simp only[Q194,zi8,zsd,zse,z1bm (hF:=e),z15s,z15t,nn_,←e]
def Q2_E:Env:=e0 [(.int .i64)]
def Tb53:Funs:=Tb52.add 163 [(.int .i64)] (pu1 (.int .i64) Q2 (fun _ r K=>K [tI r] none))
theorem o53:Okt Tryz.prog Tb53:=st1 Q2_E Tryz.f163 (fun R kk x0 K=>Q2_s0 x0 (fun a0=>K [tI a0] none)) o52 (ek _ _ _ _) Tryz.func163 (by kernel_rfl) rfl (fun _ _ _ _ _ _ h=>h _ _) (fun _ _ _ _=>by kernel_rfl) fun R kk e x0 K=>by
 simp only[Q2,Q2_s0,nn_]
def Q0_E:Env:=tab.env (fun i=>bif Nat.beq i 7 then [0,1,7,30,31] else []) (fun i=>bif Nat.beq i 7 then [1,4,5,6,7] else []) [] [.str,(.int .i64)]
def Q0_L0(a:ByteArray)(b:Int)(c:(List Int))(d e:Int):Option R:=loopR (ev Q0_E (Tb53 R) kk (sub [1,1,1,0,1,0,0] (cd Tryz.f164))) [0,1,7,30,31] [1,4,5,6,7] k ⟨[tS a]::[tI b]::uS 5 ([.dat (.sl 5 (.int .u8)) c [[]]]::uS 22 ([tI d]::[tI e]::uS 43 [])),nS 76 []⟩ J
def zpy(a:Int)(b:ByteArray)(c d:Int)(e:(List Int)):State:=⟨uS 1 ([tI a]::uS 2 ([tS b]::[tI c]::[tI d]::[.dat (.sl 5 (.int .u8)) e [[]]]::uS 67 [])),nS 76 []⟩
def zpz(a:Int)(b:(List Int)):State:=⟨uS 1 ([tI a]::uS 5 ([.dat (.sl 5 (.int .u8)) b [[]]]::uS 67 [])),nS 76 []⟩
def Q0_K0:KX R:=(zl 1 (kSeq Q0_E (Tb53 R) kk (sub [1,1,1,1] (cd Tryz.f164)) (kFin Q0_E Tryz.f164.results.toList none K)))
theorem Q0_d0(a:ByteArray)(b:Int)(c:(List Int))(d e:Int):Q0_L0 R kk (k+1) J a b c d e=
 Q0_s1 a b c d e (fun a0 a1 a2 a3 a4=>J .ret (zpy a0 a1 a2 a3 a4)) (Q0_L0 R kk k J) (fun a0 a1=>J (.exit 1) (zpz a0 a1)):=by kernel_rfl
theorem z1f6(a:Int)(b:ByteArray)(c d:Int)(e:(List Int)):Q0_K0 R kk K .ret (zpy a b c d e)=
 Q0_s2 a b c d e (fun a0 a1 a2=>K [tS a0,tI a1,tI a2] none):=by kernel_rfl
theorem z1f7(a:Int)(b:(List Int)):Q0_K0 R kk K (.exit 1) (zpz a b)=
 Q0_s3 a b (fun a0 a1 a2=>K [tS a0,tI a1,tI a2] none):=by kernel_rfl
theorem z1i6{kk:Nat}(hF:kk=FUEL)(b_0:ByteArray)(n_1:Int)(t7:(List Int))(t30 t31:Int):Q0_L0 R kk k J b_0 n_1 t7 t30 t31=(Q0_l0 k b_0 n_1 t7 t30 t31).bind fun e=>(Sum.elim (fun(we:(Int×ByteArray×Int×Int×(List Int)))=>J .ret (zpy we.1 we.2.1 we.2.2.1 we.2.2.2.1 we.2.2.2.2)) (fun(we:(Int×(List Int)))=>J (.exit 1) (zpz we.1 we.2)) e):=by
 induction k generalizing b_0 n_1 t7 t30 t31 with
 |zero=>rfl
 |succ k ih=>
  rw[Q0_d0]
  simp only[Q0_l0,Q0_s1,ih,nn_]
def Tb54:Funs:=Tb53.add 164 [.str,(.int .i64)] (pu2 .str (.int .i64) Q0 (fun _ r K=>K [tS r.1,tI r.2.1,tI r.2.2] none))
theorem o54:Okt Tryz.prog Tb54:=st2 Q0_E Tryz.f164 (fun R kk x0 x1 K=>Q0_s0 x0 x1 (fun a0 a1 a2=>K [tS a0,tI a1,tI a2] none) (Q0_L0 R kk kk (Q0_K0 R kk K))) o53 (ek _ _ _ _) Tryz.func164 (by kernel_rfl) rfl (fun _ _ _ _ _ _ h=>h _ _) (fun _ _ _ _ _=>by kernel_rfl) fun R kk e x0 x1 K=>by
 simp only[Q0,Q0_s0,Q0_s2,Q0_s3,z1i6 (hF:=e),z1f6,z1f7,nn_,←e]
def z1jd:Env:=e0 [y15,.str]
def Tb55:Funs:=Tb54.add 104 [y15,.str] (pu2 y15 .str Q223 (fun _ r K=>K [tS r.1,tI r.2.1,tI r.2.2] none))
theorem o55:Okt Tryz.prog Tb55:=st2 z1jd Tryz.f104 (fun R kk x0 x1 K=>zj0 x0 x1 (fun a0 a1 a2=>K [tS a0,tI a1,tI a2] none)) o54 (ek _ _ _ _) Tryz.func104 (by kernel_rfl) rfl (fun _ _ _ _ _ _ h=>h _ _) (fun _ _ _ _ _=>by kernel_rfl) fun R kk e x0 x1 K=>by
 simp only[Q223,zj0,nn_]
def Q9_E:Env:=e0 [(.int .i64)]
def Tb56:Funs:=Tb55.add 155 [(.int .i64)] (pu1 (.int .i64) Q9 (fun _ r K=>K [tB r] none))
theorem o56:Okt Tryz.prog Tb56:=st1 Q9_E Tryz.f155 (fun R kk x0 K=>Q9_s0 x0 (fun a0=>K [tB a0] none)) o55 (ek _ _ _ _) Tryz.func155 (by kernel_rfl) rfl (fun _ _ _ _ _ _ h=>h _ _) (fun _ _ _ _=>by kernel_rfl) fun R kk e x0 K=>by
 simp only[Q9,Q9_s0,nn_]
def z1ig:Env:=e0 [(.int .u8)]
def Tb57:Funs:=Tb56.add 205 [(.int .u8)] (pu1 (.int .u8) Q158 (fun _ r K=>K [tI r.1,tB r.2] none))
theorem o57:Okt Tryz.prog Tb57:=st1 z1ig Tryz.f205 (fun R kk x0 K=>zra x0 (fun a0 a1=>K [tI a0,tB a1] none)) o56 (ek _ _ _ _) Tryz.func205 (by kernel_rfl) rfl (fun _ _ _ _ _ _ h=>h _ _) (fun _ _ _ _=>by kernel_rfl) fun R kk e x0 K=>by
 simp only[Q158,zra,nn_]
def zms:Env:=tab.env (fun i=>bif Nat.beq i 4 then [0,5,6,7] else []) (fun i=>bif Nat.beq i 4 then [0,2,3,4,5] else []) [] [.str]
def zh0(a:ByteArray)(b:(List Int))(c d:Int):Option R:=loopR (ev zms (Tb57 R) kk (sub [1,1,1,0,1,0,0] (cd Tryz.f170))) [0,5,6,7] [0,2,3,4,5] k ⟨[tS a]::uS 4 ([.dat (.sl 5 (.int .u8)) b [[]]]::[tI c]::[tI d]::uS 44 []),nS 53 []⟩ J
def zcg(a b:ByteArray)(c:Int)(d:Bool)(e:(List Int)):State:=⟨[tS a]::uS 1 ([tS b]::[tI c]::[tB d]::[.dat (.sl 5 (.int .u8)) e [[]]]::uS 46 []),nS 53 []⟩
def zch(a:ByteArray)(b:(List Int)):State:=⟨[tS a]::uS 4 ([.dat (.sl 5 (.int .u8)) b [[]]]::uS 46 []),nS 53 []⟩
def zrb:KX R:=(zl 0 (kSeq zms (Tb57 R) kk (sub [1,1,1,1] (cd Tryz.f170)) (kFin zms Tryz.f170.results.toList none K)))
theorem z1fo(a:ByteArray)(b:(List Int))(c d:Int):zh0 R kk (k+1) J a b c d=
 z9b a b c d (fun a0 a1 a2 a3 a4=>J .ret (zcg a0 a1 a2 a3 a4)) (zh0 R kk k J) (fun a0 a1=>J (.exit 0) (zch a0 a1)):=by kernel_rfl
theorem z156(a b:ByteArray)(c:Int)(d:Bool)(e:(List Int)):zrb R kk K .ret (zcg a b c d e)=
 zrc a b c d e (fun a0 a1 a2=>K [tS a0,tI a1,tB a2] none):=by kernel_rfl
theorem z157(a:ByteArray)(b:(List Int)):zrb R kk K (.exit 0) (zch a b)=
 zh2 a b (fun a0 a1 a2=>K [tS a0,tI a1,tB a2] none):=by kernel_rfl
theorem z1b6{kk:Nat}(hF:kk=FUEL)(s_0:ByteArray)(t5:(List Int))(t6 t7:Int):zh0 R kk k J s_0 t5 t6 t7=(z5v k s_0 t5 t6 t7).bind fun e=>(Sum.elim (fun(we:(ByteArray×ByteArray×Int×Bool×(List Int)))=>J .ret (zcg we.1 we.2.1 we.2.2.1 we.2.2.2.1 we.2.2.2.2)) (fun(we:(ByteArray×(List Int)))=>J (.exit 0) (zch we.1 we.2)) e):=by
 induction k generalizing s_0 t5 t6 t7 with
 |zero=>rfl
 |succ k ih=>
  rw[z1fo]
  simp only[z5v,z9b,ih,nn_]
def Tb58:Funs:=Tb57.add 170 [.str] (pu1 .str Q159 (fun _ r K=>K [tS r.1,tI r.2.1,tB r.2.2] none))
theorem o58:Okt Tryz.prog Tb58:=st1 zms Tryz.f170 (fun R kk x0 K=>zh1 x0 (zh0 R kk kk (zrb R kk K))) o57 (ek _ _ _ _) Tryz.func170 (by kernel_rfl) rfl (fun _ _ _ _ _ _ h=>h _ _) (fun _ _ _ _=>by kernel_rfl) fun R kk e x0 K=>by
 simp only[Q159,zh1,zrc,zh2,z1b6 (hF:=e),z156,z157,nn_,←e]
def Q10_E:Env:=tab.env (fun _=>[]) (fun _=>[]) [6] [(.int .i64),.str,(.int .i64)]
def Tb59:Funs:=Tb58.add 165 [(.int .i64),.str,(.int .i64)] (pu3 (.int .i64) .str (.int .i64) Q10 (fun _ r K=>K [.dat (.arr 8 (.int .u8)) r.1 [],tI r.2.1,tI r.2.2] none))
theorem o59:Okt Tryz.prog Tb59:=st3 Q10_E Tryz.f165 (fun R kk x0 x1 x2 K=>zmf x0 x1 x2 (fun a0 a1 a2=>K [.dat (.arr 8 (.int .u8)) a0 [],tI a1,tI a2] none)) o58 (ek _ _ _ _) Tryz.func165 (by kernel_rfl) rfl (fun _ _ _ _ _ _ h=>h _ _) (fun _ _ _ _ _ _=>by kernel_rfl) fun R kk e x0 x1 x2 K=>by
 simp only[Q10,zmf,nn_]
def Q7_E:Env:=tab.env (fun i=>bif Nat.beq i 3 then [3,6,7] else []) (fun i=>bif Nat.beq i 3 then [3] else []) [] [(.arr 8 (.int .u8))]
def Q7_L0(a:Int)(b:(List Int))(c:Int):Option R:=loopR (ev Q7_E (Tb59 R) kk (sub [1,1,0,1,0,0] (cd Tryz.f166))) [3,6,7] [3] k ⟨uS 3 ([.dat (.int .u64) a []]::uS 2 ([.dat (.arr 8 (.int .u8)) b []]::[tI c]::uS 9 [])),nS 18 []⟩ J
def zty(a:Int):State:=⟨uS 3 ([.dat (.int .u64) a []]::uS 13 []),nS 18 []⟩
def Q7_K0:KX R:=(zl 0 (kSeq Q7_E (Tb59 R) kk (sub [1,1,1] (cd Tryz.f166)) (kFin Q7_E Tryz.f166.results.toList none K)))
theorem Q7_d0(a:Int)(b:(List Int))(c:Int):Q7_L0 R kk (k+1) J a b c=
 Q7_s1 a b c (Q7_L0 R kk k J) (fun a0=>J (.exit 0) (zty a0)):=by kernel_rfl
theorem z1gv(a:Int):Q7_K0 R kk K (.exit 0) (zty a)=
 Q7_s2 a (fun a0=>K [.dat (.int .u64) a0 []] none):=by kernel_rfl
theorem z1jx{kk:Nat}(hF:kk=FUEL)(t3:Int)(t6:(List Int))(t7:Int):Q7_L0 R kk k J t3 t6 t7=(Q7_l0 k t3 t6 t7).bind fun e=>J (.exit 0) (zty e):=by
 induction k generalizing t3 t6 t7 with
 |zero=>rfl
 |succ k ih=>
  rw[Q7_d0]
  simp only[Q7_l0,Q7_s1,ih,nn_]
def Tb60:Funs:=Tb59.add 166 [(.arr 8 (.int .u8))] (pu1 (.arr 8 (.int .u8)) Q7 (fun _ r K=>K [.dat (.int .u64) r []] none))
theorem o60:Okt Tryz.prog Tb60:=st1 Q7_E Tryz.f166 (fun R kk x0 K=>Q7_s0 x0 (Q7_L0 R kk kk (Q7_K0 R kk K))) o59 (ek _ _ _ _) Tryz.func166 (by kernel_rfl) rfl (fun _ _ _ _ _ _ h=>h _ _) (fun _ _ _ _=>by kernel_rfl) fun R kk e x0 K=>by
 simp only[Q7,Q7_s0,Q7_s2,z1jx (hF:=e),z1gv,nn_,←e]
def Q32_E:Env:=tab.env (fun _=>[]) (fun _=>[]) [4] [(.int .u64),(.int .u64)]
def Tb61:Funs:=Tb60.add 167 [(.int .u64),(.int .u64)] (pu2 (.int .u64) (.int .u64) Q32 (fun _ r K=>K [.dat (.pair (.int .u64) (.pair (.int .u64) .unit)) r []] none))
theorem o61:Okt Tryz.prog Tb61:=st2 Q32_E Tryz.f167 (fun R kk x0 x1 K=>zxz x0 x1 (fun a0=>K [.dat (.pair (.int .u64) (.pair (.int .u64) .unit)) a0 []] none)) o60 (ek _ _ _ _) Tryz.func167 (by kernel_rfl) rfl (fun _ _ _ _ _ _ h=>h _ _) (fun _ _ _ _ _=>by kernel_rfl) fun R kk e x0 x1 K=>by
 simp only[Q32,zxz,nn_]
def Q5_E:Env:=tab.env (fun _=>[]) (fun _=>[]) [6] [(.int .i64),.str,(.int .i64)]
def Tb62:Funs:=Tb61.add 105 [(.int .i64),.str,(.int .i64)] (pu3 (.int .i64) .str (.int .i64) Q5 (fun _ r K=>K [.dat (.pair (.int .u64) (.pair (.int .u64) .unit)) r.1 [],tI r.2.1,tI r.2.2] none))
theorem o62:Okt Tryz.prog Tb62:=st3 Q5_E Tryz.f105 (fun R kk x0 x1 x2 K=>Q5_s0 x0 x1 x2 (fun a0 a1 a2=>K [.dat (.pair (.int .u64) (.pair (.int .u64) .unit)) a0 [],tI a1,tI a2] none)) o61 (ek _ _ _ _) Tryz.func105 (by kernel_rfl) rfl (fun _ _ _ _ _ _ h=>h _ _) (fun _ _ _ _ _ _=>by kernel_rfl) fun R kk e x0 x1 x2 K=>by
 simp only[Q5,Q5_s0,nn_]
def z1ik:Env:=e0 [(.int .u64)]
def Tb63:Funs:=Tb62.add 203 [(.int .u64)] (pu1 (.int .u64) Q167 (fun _ r K=>K [tI r] none))
theorem o63:Okt Tryz.prog Tb63:=st1 z1ik Tryz.f203 (fun R kk x0 K=>zrk x0 (fun a0=>K [tI a0] none)) o62 (ek _ _ _ _) Tryz.func203 (by kernel_rfl) rfl (fun _ _ _ _ _ _ h=>h _ _) (fun _ _ _ _=>by kernel_rfl) fun R kk e x0 K=>by
 simp only[Q167,zrk,nn_]
def z1ij:Env:=e0 [(.int .u64)]
def Tb64:Funs:=Tb63.add 168 [(.int .u64)] (pu1 (.int .u64) Q166 (fun _ r K=>K [tI r] none))
theorem o64:Okt Tryz.prog Tb64:=st1 z1ij Tryz.f168 (fun R kk x0 K=>zha x0 (fun a0=>K [tI a0] none)) o63 (ek _ _ _ _) Tryz.func168 (by kernel_rfl) rfl (fun _ _ _ _ _ _ h=>h _ _) (fun _ _ _ _=>by kernel_rfl) fun R kk e x0 K=>by
 simp only[Q166,zha,nn_]
def Q39_E:Env:=e0 [(.pair (.int .u64) (.pair (.int .u64) .unit)),(.int .i64)]
def Tb65:Funs:=Tb64.add 106 [(.pair (.int .u64) (.pair (.int .u64) .unit)),(.int .i64)] (pu2 (.pair (.int .u64) (.pair (.int .u64) .unit)) (.int .i64) Q39 (fun _ r K=>K [tI r] none))
theorem o65:Okt Tryz.prog Tb65:=st2 Q39_E Tryz.f106 (fun R kk x0 x1 K=>zo7 x0 x1 (fun a0=>K [tI a0] none)) o64 (ek _ _ _ _) Tryz.func106 (by kernel_rfl) rfl (fun _ _ _ _ _ _ h=>h _ _) (fun _ _ _ _ _=>by kernel_rfl) fun R kk e x0 x1 K=>by
 simp only[Q39,zo7,nn_]
def Q14_E:Env:=e0 [(.int .i64)]
def Tb66:Funs:=Tb65.add 160 [(.int .i64)] (pu1 (.int .i64) Q14 (fun _ r K=>K [tB r] none))
theorem o66:Okt Tryz.prog Tb66:=st1 Q14_E Tryz.f160 (fun R kk x0 K=>zc8 x0 (fun a0=>K [tB a0] none)) o65 (ek _ _ _ _) Tryz.func160 (by kernel_rfl) rfl (fun _ _ _ _ _ _ h=>h _ _) (fun _ _ _ _=>by kernel_rfl) fun R kk e x0 K=>by
 simp only[Q14,zc8,nn_]
def z1it:Env:=e0 [(.int .i64),(.int .i64)]
def Tb67:Funs:=Tb66.add 200 [(.int .i64),(.int .i64)] (pu2 (.int .i64) (.int .i64) Q185 (fun _ r K=>K [tB r] none))
theorem o67:Okt Tryz.prog Tb67:=st2 z1it Tryz.f200 (fun R kk x0 x1 K=>z9j x0 x1 (fun a0=>K [tB a0] none)) o66 (ek _ _ _ _) Tryz.func200 (by kernel_rfl) rfl (fun _ _ _ _ _ _ h=>h _ _) (fun _ _ _ _ _=>by kernel_rfl) fun R kk e x0 x1 K=>by
 simp only[Q185,z9j,nn_]
def Q29_E:Env:=tab.env (fun i=>bif Nat.beq i 5 then [4,20] else []) (fun i=>bif Nat.beq i 5 then [4] else []) [] [.str]
def znv(a:Int)(b:Zt0):Option R:=loopR (ev Q29_E (Tb67 R) kk (sub [1,1,1,0,1,0,0] (cd Tryz.f204))) [4,20] [4] k ⟨uS 4 ([tI a]::uS 15 ([.ptr 21 (.spc .iter .unit .unit) []]::uS 10 [])),nS 21 ((some ⟨(.spc .iter .unit .unit),b,[]⟩)::nS 10 [])⟩ J
def zld(a:Int):State:=⟨uS 4 ([tI a]::uS 26 []),nS 32 []⟩
def z16s:KX R:=(zl 0 (kSeq Q29_E (Tb67 R) kk (sub [1,1,1,1] (cd Tryz.f204)) (kFin Q29_E Tryz.f204.results.toList none K)))
theorem z1jo(a:Int)(b:Zt0):znv R kk (k+1) J a b=
 znx a b (znv R kk k J) (fun a0=>J (.exit 0) (zld a0)):=by kernel_rfl
theorem z1cc(a:Int):z16s R kk K (.exit 0) (zld a)=
 zxy a (fun a0 a1=>K [tI a0,tB a1] none):=by kernel_rfl
theorem z1gr{kk:Nat}(hF:kk=FUEL)(t4:Int)(bt20:Zt0):znv R kk k J t4 bt20=(za3 k t4 bt20).bind fun e=>J (.exit 0) (zld e):=by
 induction k generalizing t4 bt20 with
 |zero=>rfl
 |succ k ih=>
  rw[z1jo]
  simp only[za3,znx,ih,nn_]
def Tb68:Funs:=Tb67.add 204 [.str] (pu1 .str Q29 (fun _ r K=>K [tI r.1,tB r.2] none))
theorem o68:Okt Tryz.prog Tb68:=st1 Q29_E Tryz.f204 (fun R kk x0 K=>znw x0 (fun a0 a1=>K [tI a0,tB a1] none) (znv R kk kk (z16s R kk K))) o67 (ek _ _ _ _) Tryz.func204 (by kernel_rfl) rfl (fun _ _ _ _ _ _ h=>h _ _) (fun _ _ _ _=>by kernel_rfl) fun R kk e x0 K=>by
 simp only[Q29,znw,zxy,z1gr (hF:=e),z1cc,nn_,←e]
def z1ir:Env:=e0 [(.int .i64),(.int .i64),.str,(.int .i64)]
def Tb69:Funs:=Tb68.add 169 [(.int .i64),(.int .i64),.str,(.int .i64)] (pu4 (.int .i64) (.int .i64) .str (.int .i64) Q182 (fun _ r K=>K [tI r.1,tI r.2.1,tI r.2.2] none))
theorem o69:Okt Tryz.prog Tb69:=st4 z1ir Tryz.f169 (fun R kk x0 x1 x2 x3 K=>zho x0 x1 x2 x3 (fun a0 a1 a2=>K [tI a0,tI a1,tI a2] none)) o68 (ek _ _ _ _) Tryz.func169 (by kernel_rfl) rfl (fun _ _ _ _ _ _ h=>h _ _) (fun _ _ _ _ _ _ _=>by kernel_rfl) fun R kk e x0 x1 x2 x3 K=>by
 simp only[Q182,zho,nn_]
def Q13_E:Env:=e0 [(.int .i64),(.int .i64)]
def Tb70:Funs:=Tb69.add 162 [(.int .i64),(.int .i64)] (pu2 (.int .i64) (.int .i64) Q13 (fun _ r K=>K [tI r] none))
theorem o70:Okt Tryz.prog Tb70:=st2 Q13_E Tryz.f162 (fun R kk x0 x1 K=>zmn x0 x1 (fun a0=>K [tI a0] none)) o69 (ek _ _ _ _) Tryz.func162 (by kernel_rfl) rfl (fun _ _ _ _ _ _ h=>h _ _) (fun _ _ _ _ _=>by kernel_rfl) fun R kk e x0 x1 K=>by
 simp only[Q13,zmn,nn_]
def Q11_E:Env:=e0 [(.int .i64),y9,.str,(.int .i64)]
def Tb71:Funs:=Tb70.add 107 [(.int .i64),y9,.str,(.int .i64)] (pu4 (.int .i64) y9 .str (.int .i64) Q11 (fun _ r K=>K [tS r.1,tI r.2.1,tI r.2.2] none))
theorem o71:Okt Tryz.prog Tb71:=st4 Q11_E Tryz.f107 (fun R kk x0 x1 x2 x3 K=>zmg x0 x1 x2 x3 (fun a0 a1 a2=>K [tS a0,tI a1,tI a2] none)) o70 (ek _ _ _ _) Tryz.func107 (by kernel_rfl) rfl (fun _ _ _ _ _ _ h=>h _ _) (fun _ _ _ _ _ _ _=>by kernel_rfl) fun R kk e x0 x1 x2 x3 K=>by
 simp only[Q11,zmg,nn_]
def znh:Env:=tab.env (fun i=>bif Nat.beq i 13 then [1,2,4,5,6,10,12,13] else []) (fun i=>bif Nat.beq i 13 then [1,4,5,6,10] else []) [4,5] [y15,.str]
def ziy(a:ByteArray)(b c:Int)(d:Zt18)(e:Zt17)(f:Zt6)(g:Zt17)(h:Zt6):Option R:=loopR (ev znh (Tb71 R) kk (sub [1,1,1,1,1,1,1,1,0,1,0,0] (cd Tryz.f39))) [1,2,4,5,6,10,12,13] [1,4,5,6,10] k ⟨uS 1 ([tS a]::[.ptr 3 y15 []]::uS 1 ([.ptr 5 y5 []]::[.ptr 6 (.pair (.int .i64) (.pair (.int .i64) .unit)) []]::[.ptr 7 y5 []]::uS 3 ([tI b]::uS 1 ([.ptr 13 (.pair (.int .u64) (.pair (.int .u64) .unit)) []]::[tI c]::uS 93 [])))),nS 3 ((some ⟨y15,d,[]⟩)::nS 1 ((some ⟨y5,e,[[1]]⟩)::(some ⟨(.pair (.int .i64) (.pair (.int .i64) .unit)),f,[]⟩)::(some ⟨y5,g,[[1]]⟩)::nS 5 ((some ⟨(.pair (.int .u64) (.pair (.int .u64) .unit)),h,[]⟩)::nS 94 [])))⟩ J
def zdi(a:ByteArray)(b:Int)(c:Zt17)(d:Zt6)(e:Zt17):State:=⟨uS 1 ([tS a]::uS 2 ([.ptr 5 y5 []]::[.ptr 6 (.pair (.int .i64) (.pair (.int .i64) .unit)) []]::[.ptr 7 y5 []]::uS 3 ([tI b]::uS 96 []))),nS 5 ((some ⟨y5,c,[[1]]⟩)::(some ⟨(.pair (.int .i64) (.pair (.int .i64) .unit)),d,[]⟩)::(some ⟨y5,e,[]⟩)::nS 100 [])⟩
def zdj(a:ByteArray)(b:Int)(c:Zt17)(d:Zt6)(e:Zt17):State:=⟨uS 1 ([tS a]::uS 2 ([.ptr 5 y5 []]::[.ptr 6 (.pair (.int .i64) (.pair (.int .i64) .unit)) []]::[.ptr 7 y5 []]::uS 3 ([tI b]::uS 96 []))),nS 5 ((some ⟨y5,c,[[1]]⟩)::(some ⟨(.pair (.int .i64) (.pair (.int .i64) .unit)),d,[]⟩)::(some ⟨y5,e,[[1]]⟩)::nS 100 [])⟩
def zt2:KX R:=(zl 0 (kSeq znh (Tb71 R) kk (sub [1,1,1,1,1,1,1,1,1] (cd Tryz.f39)) (kFin znh Tryz.f39.results.toList none K)))
theorem z1gc(a:ByteArray)(b c:Int)(d:Zt18)(e:Zt17)(f:Zt6)(g:Zt17)(h:Zt6):ziy R kk (k+1) J a b c d e f g h=
 z9v a b c d e f g h (fun a0 a1 a2 a3 a4=>J .ret (zdi a0 a1 a2 a3 a4)) (ziy R kk k J) (fun a0 a1 a2 a3 a4=>J (.exit 0) (zdj a0 a1 a2 a3 a4)):=by kernel_rfl
theorem z167(a:ByteArray)(b:Int)(c:Zt17)(d:Zt6)(e:Zt17):zt2 R kk K .ret (zdi a b c d e)=
 zt3 a b c d e (fun a0 a1=>K [.dat y5 a0 [[1]],.dat (.pair (.int .i64) (.pair (.int .i64) .unit)) a1 []] none):=by kernel_rfl
theorem z168(a:ByteArray)(b:Int)(c:Zt17)(d:Zt6)(e:Zt17):zt2 R kk K (.exit 0) (zdj a b c d e)=
 zt4 a b c d e (fun a0 a1=>K [.dat y5 a0 [[1]],.dat (.pair (.int .i64) (.pair (.int .i64) .unit)) a1 []] none):=by kernel_rfl
theorem z1bv{kk:Nat}(hF:kk=FUEL)(b_1:ByteArray)(t10 t13:Int)(bt2:Zt18)(bt4:Zt17)(bt5:Zt6)(bt6:Zt17)(bt12:Zt6):ziy R kk k J b_1 t10 t13 bt2 bt4 bt5 bt6 bt12=(z60 k b_1 t10 t13 bt2 bt4 bt5 bt6 bt12).bind fun e=>(Sum.elim (fun(we:Zt25)=>J .ret (zdi we.1 we.2.1 we.2.2.1 we.2.2.2.1 we.2.2.2.2)) (fun(we:Zt25)=>J (.exit 0) (zdj we.1 we.2.1 we.2.2.1 we.2.2.2.1 we.2.2.2.2)) e):=by
 induction k generalizing b_1 t10 t13 bt2 bt4 bt5 bt6 bt12 with
 |zero=>rfl
 |succ k ih=>
  rw[z1gc]
  simp only[z60,z9v,ih,nn_]
def Tb72:Funs:=Tb71.add 39 [y15,.str] (pu2 y15 .str Q222 (fun _ r K=>K [.dat y5 r.1 [[1]],.dat (.pair (.int .i64) (.pair (.int .i64) .unit)) r.2 []] none))
theorem o72:Okt Tryz.prog Tb72:=st2 znh Tryz.f39 (fun R kk x0 x1 K=>ziz x0 x1 (fun a0 a1=>K [.dat y5 a0 [[1]],.dat (.pair (.int .i64) (.pair (.int .i64) .unit)) a1 []] none) (ziy R kk kk (zt2 R kk K))) o71 (ek _ _ _ _) Tryz.func39 (by kernel_rfl) rfl (fun _ _ _ _ _ _ h=>h _ _) (fun _ _ _ _ _=>by kernel_rfl) fun R kk e x0 x1 K=>by
 simp only[Q222,ziz,zt3,zt4,z1bv (hF:=e),z167,z168,nn_,←e]
def z1io:Env:=e0 [.str]
def Tb73:Funs:=Tb72.add 92 [.str] (pu1 .str Q179 (fun _ r K=>K [tS r.1,tB r.2] none))
theorem o73:Okt Tryz.prog Tb73:=st1 z1io Tryz.f92 (fun R kk x0 K=>zhl x0 (fun a0 a1=>K [tS a0,tB a1] none)) o72 (ek _ _ _ _) Tryz.func92 (by kernel_rfl) rfl (fun _ _ _ _ _ _ h=>h _ _) (fun _ _ _ _=>by kernel_rfl) fun R kk e x0 K=>by
 simp only[Q179,zhl,nn_]
def zn0:Env:=tab.env (fun i=>bif Nat.beq i 2 then [1,9,10,11] else []) (fun i=>bif Nat.beq i 2 then [4,5] else []) [] [y5,(.int .i64)]
def zhd(a:Int)(b:Zt12)(c d:Int):Option R:=loopR (ev zn0 (Tb73 R) kk (sub [1,0,1,0,0] (cd Tryz.f93))) [1,9,10,11] [4,5] k ⟨uS 1 ([tI a]::uS 7 ([.dat (.sl 90 (.pair (.int .i64) (.pair .str .unit))) b []]::[tI c]::[tI d]::uS 10 [])),nS 23 []⟩ J
def zcp(a:ByteArray)(b:Bool):State:=⟨uS 4 ([tS a]::[tB b]::uS 16 []),nS 23 []⟩
def zcq:State:=⟨uS 22 [],nS 23 []⟩
def zrp:KX R:=(zl 0 (kSeq zn0 (Tb73 R) kk (sub [1,1] (cd Tryz.f93)) (kFin zn0 Tryz.f93.results.toList none K)))
theorem z1fu(a:Int)(b:Zt12)(c d:Int):zhd R kk (k+1) J a b c d=
 zrq a b c d (fun a0 a1=>J .ret (zcp a0 a1)) (zhd R kk k J) (J (.exit 0) (zcq)):=by kernel_rfl
theorem z15e(a:ByteArray)(b:Bool):zrp R kk K .ret (zcp a b)=
 zrr a b (fun a0 a1=>K [tS a0,tB a1] none):=by kernel_rfl
theorem z15f:zrp R kk K (.exit 0) (zcq)=
 zrs (fun a0 a1=>K [tS a0,tB a1] none):=by kernel_rfl
theorem z1bd{kk:Nat}(hF:kk=FUEL)(no_1:Int)(t9:Zt12)(t10 t11:Int):zhd R kk k J no_1 t9 t10 t11=(z9g k no_1 t9 t10 t11).bind fun e=>(Sum.elim (fun(we:Zt5)=>J .ret (zcp we.1 we.2)) (fun(we:Unit)=>J (.exit 0) (zcq)) e):=by
 induction k generalizing no_1 t9 t10 t11 with
 |zero=>rfl
 |succ k ih=>
  rw[z1fu]
  simp only[z9g,zrq,ih,nn_]
def Tb74:Funs:=Tb73.add 93 [y5,(.int .i64)] (pu2 y5 (.int .i64) Q173 (fun _ r K=>K [tS r.1,tB r.2] none))
theorem o74:Okt Tryz.prog Tb74:=st2 zn0 Tryz.f93 (fun R kk x0 x1 K=>zhe x0 x1 (zhd R kk kk (zrp R kk K))) o73 (ek _ _ _ _) Tryz.func93 (by kernel_rfl) rfl (fun _ _ _ _ _ _ h=>h _ _) (fun _ _ _ _ _=>by kernel_rfl) fun R kk e x0 x1 K=>by
 simp only[Q173,zhe,zrr,zrs,z1bd (hF:=e),z15e,z15f,nn_,←e]
def zn2:Env:=tab.env (fun i=>bif Nat.beq i 3 then [1,4,5,12,13,14] else []) (fun i=>bif Nat.beq i 3 then [4,5] else []) [4] [y5,(.int .i64)]
def zhi(a:Int)(b:Zt12)(c d:Int)(e f:Zt17):Option R:=loopR (ev zn2 (Tb74 R) kk (sub [1,1,0,1,0,0] (cd Tryz.f149))) [1,4,5,12,13,14] [4,5] k ⟨uS 1 ([tI a]::uS 2 ([.ptr 5 y5 []]::[.ptr 6 y5 []]::uS 6 ([.dat (.sl 90 (.pair (.int .i64) (.pair .str .unit))) b []]::[tI c]::[tI d]::uS 15 []))),nS 5 ((some ⟨y5,e,[[1]]⟩)::(some ⟨y5,f,[[1]]⟩)::nS 24 [])⟩ J
def zcs(a b:Zt17):State:=⟨uS 4 ([.ptr 5 y5 []]::[.ptr 6 y5 []]::uS 24 []),nS 5 ((some ⟨y5,a,[[1]]⟩)::(some ⟨y5,b,[[1]]⟩)::nS 24 [])⟩
def z11p:KX R:=(zl 0 (kSeq zn2 (Tb74 R) kk (sub [1,1,1] (cd Tryz.f149)) (kFin zn2 Tryz.f149.results.toList none K)))
theorem z1fw(a:Int)(b:Zt12)(c d:Int)(e f:Zt17):zhi R kk (k+1) J a b c d e f=
 zrw a b c d e f (zhi R kk k J) (fun a0 a1=>J (.exit 0) (zcs a0 a1)):=by kernel_rfl
theorem z15h(a b:Zt17):z11p R kk K (.exit 0) (zcs a b)=
 zrx a b (fun a0=>K [.dat y5 a0 [[1]]] none):=by kernel_rfl
theorem z1bf{kk:Nat}(hF:kk=FUEL)(no_1:Int)(t12:Zt12)(t13 t14:Int)(bt4 bt5:Zt17):zhi R kk k J no_1 t12 t13 t14 bt4 bt5=(z9i k no_1 t12 t13 t14 bt4 bt5).bind fun e=>J (.exit 0) (zcs e.1 e.2):=by
 induction k generalizing no_1 t12 t13 t14 bt4 bt5 with
 |zero=>rfl
 |succ k ih=>
  rw[z1fw]
  simp only[z9i,zrw,ih,nn_]
def Tb75:Funs:=Tb74.add 149 [y5,(.int .i64)] (pu2 y5 (.int .i64) Q177 (fun _ r K=>K [.dat y5 r [[1]]] none))
theorem o75:Okt Tryz.prog Tb75:=st2 zn2 Tryz.f149 (fun R kk x0 x1 K=>zhj x0 x1 (zhi R kk kk (z11p R kk K))) o74 (ek _ _ _ _) Tryz.func149 (by kernel_rfl) rfl (fun _ _ _ _ _ _ h=>h _ _) (fun _ _ _ _ _=>by kernel_rfl) fun R kk e x0 x1 K=>by
 simp only[Q177,zhj,zrx,z1bf (hF:=e),z15h,nn_,←e]
def z1im:Env:=e0 [(.pair (.int .i64) (.pair .str .unit)),.unit]
def Tb76:Funs:=Tb75.add 151 [(.pair (.int .i64) (.pair .str .unit)),.unit] (pz (.pair (.int .i64) (.pair .str .unit)) (.int .i64) (.int .i64) [] Q176 (fun _ r K=>K [tB r.1] (some ⟨(.int .i64),r.2,[]⟩)))
theorem o76:Okt Tryz.prog Tb76:=sz z1im Tryz.f151 (fun R kk x0 x1 K=>zrv x0 x1 (fun a0 a1=>K [tB a0] (some ⟨(.int .i64),a1,[]⟩))) o75 (ek _ _ _ _) Tryz.func151 (by kernel_rfl) rfl (fun _ _ _ _ _ _ h=>h _ _) (fun _ _ _ _ _=>by kernel_rfl) fun R kk e x0 x1 K=>by
 simp only[Q176,zrv,nn_]
def zne:Env:=tab.env (fun i=>bif Nat.beq i 2 then [0,1,7,8] else []) (fun i=>bif Nat.beq i 2 then [4] else []) [] [(.sl 90 (.pair (.int .i64) (.pair .str .unit))),.unit]
def ziq(a:Zt12)(b c d:Int):Option R:=loopR (ev zne (Tb76 R) kk (sub [1,0,1,0,0] (cd Tryz.f150))) [0,1,7,8] [4] k ⟨[.dat (.sl 90 (.pair (.int .i64) (.pair .str .unit))) a []]::[.ptr 0 (.spc (.clo 151) (.int .i64) .unit) []]::uS 5 ([tI b]::[tI c]::uS 10 []),(some ⟨(.int .i64),d,[]⟩)::nS 19 []⟩ J
def zde(a b:Int):State:=⟨uS 4 ([tI a]::uS 14 []),(some ⟨(.int .i64),b,[]⟩)::nS 19 []⟩
def zdf(a:Int):State:=⟨uS 19 [],(some ⟨(.int .i64),a,[]⟩)::nS 19 []⟩
def zsu(a:Int):KX R:=(zl 0 (kSeq zne (Tb76 R) kk (sub [1,1] (cd Tryz.f150)) (kFin zne Tryz.f150.results.toList (some ⟨(.int .i64),a,[]⟩) K)))
theorem z1ga(a:Zt12)(b c d:Int):ziq R kk (k+1) J a b c d=
 zsv a b c d (fun a0 a1=>J .ret (zde a0 a1)) (ziq R kk k J) (fun a0=>J (.exit 0) (zdf a0)):=by kernel_rfl
theorem z162(a b c:Int):zsu R kk K a .ret (zde b c)=
 zsw b c (fun a0 a1=>K [tI a0] (some ⟨(.int .i64),a1,[]⟩)):=by kernel_rfl
theorem z163(a b:Int):zsu R kk K a (.exit 0) (zdf b)=
 zsx b (fun a0 a1=>K [tI a0] (some ⟨(.int .i64),a1,[]⟩)):=by kernel_rfl
theorem z1bt{kk:Nat}(hF:kk=FUEL)(a_0:Zt12)(t7 t8 recv:Int):ziq R kk k J a_0 t7 t8 recv=(z9t k a_0 t7 t8 recv).bind fun e=>(Sum.elim (fun(we:(Int×Int))=>J .ret (zde we.1 we.2)) (fun(we:Int)=>J (.exit 0) (zdf we)) e):=by
 induction k generalizing a_0 t7 t8 recv with
 |zero=>rfl
 |succ k ih=>
  rw[z1ga]
  simp only[z9t,zsv,ih,nn_]
def Tb77:Funs:=Tb76.add 150 [(.sl 90 (.pair (.int .i64) (.pair .str .unit))),.unit] (pz (.sl 90 (.pair (.int .i64) (.pair .str .unit))) (.spc (.clo 151) (.int .i64) .unit) (.int .i64) [] Q216 (fun _ r K=>K [tI r.1] (some ⟨(.int .i64),r.2,[]⟩)))
theorem o77:Okt Tryz.prog Tb77:=sz zne Tryz.f150 (fun R kk x0 x1 K=>zir x0 x1 (ziq R kk kk (zsu R kk K x1))) o76 (ek _ _ _ _) Tryz.func150 (by kernel_rfl) rfl (fun _ _ _ _ _ _ h=>h _ _) (fun _ _ _ _ _=>by kernel_rfl) fun R kk e x0 x1 K=>by
 simp only[Q216,zir,zsw,zsx,z1bt (hF:=e),z162,z163,nn_,←e]
def z1il:Env:={tab.env (fun _=>[]) (fun _=>[]) [6] [y5,(.int .i64),.str] with fz:=fun i=>bif Nat.beq i 9 then some (9,47) else none}
def Tb78:Funs:=Tb77.add 94 [y5,(.int .i64),.str] (pu3 y5 (.int .i64) .str Q175 (fun _ r K=>K [.dat y5 r []] none))
theorem o78:Okt Tryz.prog Tb78:=st3 z1il Tryz.f94 (fun R kk x0 x1 x2 K=>zhh x0 x1 x2 (fun a0=>K [.dat y5 a0 []] none)) o77 ((ek _ _ _ _).fz _) Tryz.func94 (by kernel_rfl) rfl (fun _ _ _ _ _ _ h=>h _ _) (fun _ _ _ _ _ _=>by kernel_rfl) fun R kk e x0 x1 x2 K=>by
 simp only[Q175,zhh,nn_]
def z7o:Env:=tab.env (fun i=>bif Nat.beq i 2 then [2,10,11,12] else bif Nat.beq i 5 then [2,6,10,11,12,17,18,19] else []) (fun i=>bif Nat.beq i 2 then [4] else bif Nat.beq i 5 then [2,4,10,11,12] else []) [] [y18,(.int .i64)]
def zi0(a:(List Int))(b c:Int)(d:Zt26):Option R:=loopR (ev z7o (Tb78 R) kk (sub [1,0,1,0,0] (cd Tryz.f95))) [2,10,11,12] [4] k ⟨uS 2 ([.ptr 3 y18 []]::uS 7 ([.dat (.sl 38 (.int .i64)) a [[]]]::[tI b]::[tI c]::uS 18 [])),nS 3 ((some ⟨y18,d,[]⟩)::nS 28 [])⟩ J
def zcz:State:=⟨uS 31 [],nS 32 []⟩
def zd0(a:ByteArray):State:=⟨uS 4 ([tS a]::uS 26 []),nS 32 []⟩
def zs6:KX R:=(zl 0 (kSeq z7o (Tb78 R) kk (sub [1,1] (cd Tryz.f95)) (kFin z7o Tryz.f95.results.toList none K)))
def zi1(a:Int)(b:(List Int))(c d:Int)(e:Zt12)(f g:Int)(h:Zt26):Option R:=loopR (ev z7o (Tb78 R) kk (sub [1,0,1,0,0,1,1,0,0,1,1,0,0] (cd Tryz.f95))) [2,6,10,11,12,17,18,19] [2,4,10,11,12] k ⟨uS 2 ([.ptr 3 y18 []]::uS 3 ([tI a]::uS 3 ([.dat (.sl 38 (.int .i64)) b [[]]]::[tI c]::[tI d]::uS 4 ([.dat (.sl 96 (.pair (.int .i64) (.pair .str .unit))) e []]::[tI f]::[tI g]::uS 11 [])))),nS 3 ((some ⟨y18,h,[]⟩)::nS 28 [])⟩ J
def zd1(a:ByteArray)(b:(List Int))(c d:Int)(e:Zt26):State:=⟨uS 2 ([.ptr 3 y18 []]::uS 1 ([tS a]::uS 5 ([.dat (.sl 38 (.int .i64)) b [[]]]::[tI c]::[tI d]::uS 18 []))),nS 3 ((some ⟨y18,e,[]⟩)::nS 28 [])⟩
def zd2(a:(List Int))(b c:Int)(d:Zt26):State:=⟨uS 2 ([.ptr 3 y18 []]::uS 7 ([.dat (.sl 38 (.int .i64)) a [[]]]::[tI b]::[tI c]::uS 18 [])),nS 3 ((some ⟨y18,d,[]⟩)::nS 28 [])⟩
def zs7:KX R:=(zl 2 (zl 1 (kSeq z7o (Tb78 R) kk (sub [1,0,1,0,0,1,1,1] (cd Tryz.f95)) (kLoop (ev z7o (Tb78 R) kk (sub [1,0,1,0,0] (cd Tryz.f95))) [2,10,11,12] [4] k J))))
theorem z1g1(a:(List Int))(b c:Int)(d:Zt26):zi0 R kk (k+1) J a b c d=
 z9o a b c d (zi1 R kk kk (zs7 R kk k J)) (J (.exit 0) (zcz)):=by kernel_rfl
theorem z15o:zs6 R kk K (.exit 0) (zcz)=
 zs8 (fun a0=>K [tS a0] none):=by kernel_rfl
theorem z1g2(a:Int)(b:(List Int))(c d:Int)(e:Zt12)(f g:Int)(h:Zt26):zi1 R kk (k+1) J a b c d e f g h=
 zs9 a b c d e f g h (fun a0 a1 a2 a3 a4=>J .ret (zd1 a0 a1 a2 a3 a4)) (zi1 R kk k J) (fun a0 a1 a2 a3=>J (.exit 2) (zd2 a0 a1 a2 a3)):=by kernel_rfl
theorem z15q(a:ByteArray)(b:(List Int))(c d:Int)(e:Zt26):zs7 R kk k J .ret (zd1 a b c d e)=
 zsa a b c d e (fun a0=>J .ret (zd0 a0)):=by kernel_rfl
theorem z15r(a:(List Int))(b c:Int)(d:Zt26):zs7 R kk k J (.exit 2) (zd2 a b c d)=
 zi3 a b c d (zi0 R kk k J):=by kernel_rfl
theorem z15p(a:ByteArray):zs6 R kk K .ret (zd0 a)=
 zsb a (fun a0=>K [tS a0] none):=by kernel_rfl
theorem z1bl{kk:Nat}(hF:kk=FUEL)(t6:Int)(t10:(List Int))(t11 t12:Int)(t17:Zt12)(t18 t19:Int)(bt2:Zt26):zi1 R kk k J t6 t10 t11 t12 t17 t18 t19 bt2=(z73 k t6 t10 t11 t12 t17 t18 t19 bt2).bind fun e=>(Sum.elim (fun(we:(ByteArray×(List Int)×Int×Int×Zt26))=>J .ret (zd1 we.1 we.2.1 we.2.2.1 we.2.2.2.1 we.2.2.2.2)) (fun(we:((List Int)×Int×Int×Zt26))=>J (.exit 2) (zd2 we.1 we.2.1 we.2.2.1 we.2.2.2)) e):=by
 induction k generalizing t6 t10 t11 t12 t17 t18 t19 bt2 with
 |zero=>rfl
 |succ k ih=>
  rw[z1g2]
  simp only[z73,zs9,ih,nn_]
theorem z1bk{kk:Nat}(hF:kk=FUEL)(t10:(List Int))(t11 t12:Int)(bt2:Zt26):zi0 R kk k J t10 t11 t12 bt2=(z52 k t10 t11 t12 bt2).bind fun e=>(Sum.elim (fun(we:Unit)=>J (.exit 0) (zcz)) (fun(we:ByteArray)=>J .ret (zd0 we)) e):=by
 induction k generalizing t10 t11 t12 bt2 with
 |zero=>rfl
 |succ k ih=>
  rw[z1g1]
  simp only[z52,z9o,zsa,zi3,ih,z1bl (hF:=hF),z15q,z15r,nn_,←hF]
def Tb79:Funs:=Tb78.add 95 [y18,(.int .i64)] (pu2 y18 (.int .i64) Q189 (fun _ r K=>K [tS r] none))
theorem o79:Okt Tryz.prog Tb79:=st2 z7o Tryz.f95 (fun R kk x0 x1 K=>zi2 x0 x1 (zi0 R kk kk (zs6 R kk K))) o78 (ek _ _ _ _) Tryz.func95 (by kernel_rfl) rfl (fun _ _ _ _ _ _ h=>h _ _) (fun _ _ _ _ _=>by kernel_rfl) fun R kk e x0 x1 K=>by
 simp only[Q189,zi2,zs8,zsb,z1bk (hF:=e),z15o,z15p,nn_,←e]
def zn5:Env:={{tab.env (fun i=>bif Nat.beq i 6 then [3,4,5,6,10,27,28,29] else []) (fun i=>bif Nat.beq i 6 then [3,5,6,10] else []) [6] [y18,y5,(.pair (.int .i64) (.pair (.int .i64) .unit))] with dr:=fun i=>bif Nat.beq i 6 then [11] else []} with ro:=true}
def zhs(a:(List Int))(b c:Int)(d:Zt26)(e:Zt17)(f:Zt6)(g h:Zt17):Option R:=loopR (ev zn5 (Tb79 R) kk (sub [1,1,1,1,0,1,0,0] (cd Tryz.f37))) [3,4,5,6,10,27,28,29] [3,5,6,10] k ⟨uS 3 ([.ptr 4 y18 []]::[.ptr 5 y5 []]::[.ptr 6 (.pair (.int .i64) (.pair (.int .i64) .unit)) []]::[.ptr 7 y5 []]::uS 3 ([.ptr 11 y5 []]::uS 16 ([.dat (.sl 3 (.int .i64)) a []]::[tI b]::[tI c]::uS 21 []))),nS 4 ((some ⟨y18,d,[]⟩)::(some ⟨y5,e,[]⟩)::(some ⟨(.pair (.int .i64) (.pair (.int .i64) .unit)),f,[]⟩)::(some ⟨y5,g,[[1]]⟩)::nS 3 ((some ⟨y5,h,[]⟩)::nS 40 []))⟩ J
def zcu(a:Zt26)(b:Zt6)(c d:Zt17):State:=⟨uS 3 ([.ptr 4 y18 []]::uS 1 ([.ptr 6 (.pair (.int .i64) (.pair (.int .i64) .unit)) []]::[.ptr 7 y5 []]::uS 3 ([.ptr 11 y5 []]::uS 40 []))),nS 4 ((some ⟨y18,a,[]⟩)::nS 1 ((some ⟨(.pair (.int .i64) (.pair (.int .i64) .unit)),b,[]⟩)::(some ⟨y5,c,[[1]]⟩)::nS 3 ((some ⟨y5,d,[]⟩)::nS 40 [])))⟩
def z11r:KX R:=(zl 0 (kSeq zn5 (Tb79 R) kk (sub [1,1,1,1,1] (cd Tryz.f37)) (kFin zn5 Tryz.f37.results.toList none K)))
theorem z1fy(a:(List Int))(b c:Int)(d:Zt26)(e:Zt17)(f:Zt6)(g h:Zt17):zhs R kk (k+1) J a b c d e f g h=
 zs1 a b c d e f g h (zhs R kk k J) (fun a0 a1 a2 a3=>J (.exit 0) (zcu a0 a1 a2 a3)):=by kernel_rfl
theorem z15j(a:Zt26)(b:Zt6)(c d:Zt17):z11r R kk K (.exit 0) (zcu a b c d)=
 zhu a b c d (fun a0 a1=>K [.dat y5 a0 [],tB a1] none):=by kernel_rfl
theorem z1bh{kk:Nat}(hF:kk=FUEL)(t27:(List Int))(t28 t29:Int)(bt3:Zt26)(bt4:Zt17)(bt5:Zt6)(bt6 bt10:Zt17):zhs R kk k J t27 t28 t29 bt3 bt4 bt5 bt6 bt10=(z9l k t27 t28 t29 bt3 bt4 bt5 bt6 bt10).bind fun e=>J (.exit 0) (zcu e.1 e.2.1 e.2.2.1 e.2.2.2):=by
 induction k generalizing t27 t28 t29 bt3 bt4 bt5 bt6 bt10 with
 |zero=>rfl
 |succ k ih=>
  rw[z1fy]
  simp only[z9l,zs1,ih,nn_]
def Tb80:Funs:=Tb79.add 37 [y18,y5,(.pair (.int .i64) (.pair (.int .i64) .unit))] (pu3 y18 y5 (.pair (.int .i64) (.pair (.int .i64) .unit)) Q187 (fun _ r K=>K [.dat y5 r.1 [],tB r.2] none))
theorem o80:Okt Tryz.prog Tb80:=st3 zn5 Tryz.f37 (fun R kk x0 x1 x2 K=>zht x0 x1 x2 (fun a0 a1=>K [.dat y5 a0 [],tB a1] none) (zhs R kk kk (z11r R kk K))) o79 (((ek _ _ _ _).dr _).ro _) Tryz.func37 (by kernel_rfl) rfl (fun _ _ _ _ _ _ h=>h _ _) (fun _ _ _ _ _ _=>by kernel_rfl) fun R kk e x0 x1 x2 K=>by
 simp only[Q187,zht,zhu,z1bh (hF:=e),z15j,nn_,←e]
def zmz:Env:=tab.env (fun i=>bif Nat.beq i 9 then [2,4,9,39,40,41] else []) (fun i=>bif Nat.beq i 9 then [4] else []) [4] [y15,y5]
def zhb(a:Int)(b:Zt12)(c d:Int)(e:Zt18)(f:Zt6):Option R:=loopR (ev zmz (Tb80 R) kk (sub [1,1,1,1,0,1,0,0] (cd Tryz.f96))) [2,4,9,39,40,41] [4] k ⟨uS 2 ([.ptr 3 y15 []]::uS 1 ([.ptr 5 (.pair (.int .i64) (.pair (.int .i64) .unit)) []]::uS 4 ([tI a]::uS 29 ([.dat (.sl 90 (.pair (.int .i64) (.pair .str .unit))) b []]::[tI c]::[tI d]::uS 36 [])))),nS 3 ((some ⟨y15,e,[]⟩)::nS 1 ((some ⟨(.pair (.int .i64) (.pair (.int .i64) .unit)),f,[]⟩)::nS 73 []))⟩ J
def zcn(a:Zt6):State:=⟨uS 4 ([.ptr 5 (.pair (.int .i64) (.pair (.int .i64) .unit)) []]::uS 73 []),nS 5 ((some ⟨(.pair (.int .i64) (.pair (.int .i64) .unit)),a,[]⟩)::nS 73 [])⟩
def zco(a:Zt6):State:=⟨uS 4 ([.ptr 5 (.pair (.int .i64) (.pair (.int .i64) .unit)) []]::uS 73 []),nS 5 ((some ⟨(.pair (.int .i64) (.pair (.int .i64) .unit)),a,[]⟩)::nS 73 [])⟩
def zrl:KX R:=(zl 0 (kSeq zmz (Tb80 R) kk (sub [1,1,1,1,1] (cd Tryz.f96)) (kFin zmz Tryz.f96.results.toList none K)))
theorem z1ft(a:Int)(b:Zt12)(c d:Int)(e:Zt18)(f:Zt6):zhb R kk (k+1) J a b c d e f=
 zrm a b c d e f (fun a0=>J .ret (zcn a0)) (zhb R kk k J) (fun a0=>J (.exit 0) (zco a0)):=by kernel_rfl
theorem z15c(a:Zt6):zrl R kk K .ret (zcn a)=
 zrn a (fun a0=>K [.dat (.pair (.int .i64) (.pair (.int .i64) .unit)) a0 []] none):=by kernel_rfl
theorem z15d(a:Zt6):zrl R kk K (.exit 0) (zco a)=
 zro a (fun a0=>K [.dat (.pair (.int .i64) (.pair (.int .i64) .unit)) a0 []] none):=by kernel_rfl
theorem z1bc{kk:Nat}(hF:kk=FUEL)(t9:Int)(t39:Zt12)(t40 t41:Int)(bt2:Zt18)(bt4:Zt6):zhb R kk k J t9 t39 t40 t41 bt2 bt4=(z9f k t9 t39 t40 t41 bt2 bt4).bind fun e=>(Sum.elim (fun(we:Zt6)=>J .ret (zcn we)) (fun(we:Zt6)=>J (.exit 0) (zco we)) e):=by
 induction k generalizing t9 t39 t40 t41 bt2 bt4 with
 |zero=>rfl
 |succ k ih=>
  rw[z1ft]
  simp only[z9f,zrm,ih,nn_]
def Tb81:Funs:=Tb80.add 96 [y15,y5] (pu2 y15 y5 Q172 (fun _ r K=>K [.dat (.pair (.int .i64) (.pair (.int .i64) .unit)) r []] none))
theorem o81:Okt Tryz.prog Tb81:=st2 zmz Tryz.f96 (fun R kk x0 x1 K=>zhc x0 x1 (fun a0=>K [.dat (.pair (.int .i64) (.pair (.int .i64) .unit)) a0 []] none) (zhb R kk kk (zrl R kk K))) o80 (ek _ _ _ _) Tryz.func96 (by kernel_rfl) rfl (fun _ _ _ _ _ _ h=>h _ _) (fun _ _ _ _ _=>by kernel_rfl) fun R kk e x0 x1 K=>by
 simp only[Q172,zhc,zrn,zro,z1bc (hF:=e),z15c,z15d,nn_,←e]
def Q1_E:Env:=tab.env (fun i=>bif Nat.beq i 7 then [0,4,5] else []) (fun i=>bif Nat.beq i 7 then [4] else []) [] [.str]
def Q1_L0(a:ByteArray)(b:(List Int))(c:Int):Option R:=loopR (ev Q1_E (Tb81 R) kk (sub [1,1,1,1,0,1,0,0] (cd Tryz.f154))) [0,4,5] [4] k ⟨[tS a]::uS 3 ([.dat (.sl 5 (.int .u8)) b [[]]]::[tI c]::uS 40 []),nS 47 []⟩ J
def zsg(a:(List Int)):State:=⟨uS 4 ([.dat (.sl 5 (.int .u8)) a [[]]]::uS 41 []),nS 47 []⟩
def Q1_K0:KX R:=(zl 0 (kSeq Q1_E (Tb81 R) kk (sub [1,1,1,1,1] (cd Tryz.f154)) (kFin Q1_E Tryz.f154.results.toList none K)))
theorem Q1_d0(a:ByteArray)(b:(List Int))(c:Int):Q1_L0 R kk (k+1) J a b c=
 Q1_s1 a b c (Q1_L0 R kk k J) (fun a0=>J (.exit 0) (zsg a0)):=by kernel_rfl
theorem z1g4(a:(List Int)):Q1_K0 R kk K (.exit 0) (zsg a)=
 Q1_s2 a (fun a0 a1=>K [tS a0,tB a1] none):=by kernel_rfl
theorem z1j1{kk:Nat}(hF:kk=FUEL)(s_0:ByteArray)(t4:(List Int))(t5:Int):Q1_L0 R kk k J s_0 t4 t5=(Q1_l0 k s_0 t4 t5).bind fun e=>J (.exit 0) (zsg e):=by
 induction k generalizing s_0 t4 t5 with
 |zero=>rfl
 |succ k ih=>
  rw[Q1_d0]
  simp only[Q1_l0,Q1_s1,ih,nn_]
def Tb82:Funs:=Tb81.add 154 [.str] (pu1 .str Q1 (fun _ r K=>K [tS r.1,tB r.2] none))
theorem o82:Okt Tryz.prog Tb82:=st1 Q1_E Tryz.f154 (fun R kk x0 K=>Q1_s0 x0 (fun a0 a1=>K [tS a0,tB a1] none) (fun a0 a1 a2=>Q1_L0 R kk kk (Q1_K0 R kk K) a0 a1 a2)) o81 (ek _ _ _ _) Tryz.func154 (by kernel_rfl) rfl (fun _ _ _ _ _ _ h=>h _ _) (fun _ _ _ _=>by kernel_rfl) fun R kk e x0 K=>by
 simp only[Q1,z130,Q1_s2,z1j1 (hF:=e),z1g4,nn_,←e]
def z1jl:Env:=e0 [(.int .i64),.str]
def Tb83:Funs:=Tb82.add 99 [(.int .i64),.str] (pu2 (.int .i64) .str Q240 (fun _ r K=>K [tS r.1,tB r.2] none))
theorem o83:Okt Tryz.prog Tb83:=st2 z1jl Tryz.f99 (fun R kk x0 x1 K=>zji x0 x1 (fun a0 a1=>K [tS a0,tB a1] none)) o82 (ek _ _ _ _) Tryz.func99 (by kernel_rfl) rfl (fun _ _ _ _ _ _ h=>h _ _) (fun _ _ _ _ _=>by kernel_rfl) fun R kk e x0 x1 K=>by
 simp only[Q240,zji,nn_]
def Tryz.lays166_ren:Go.Shelf.Ren:=⟨fun|166=>98|240=>152|276=>198|n=>n,fun|70=>144|9=>9|3=>3|75=>149|0=>0|72=>147|37=>145|4=>4|164=>246|80=>158|5=>5|20=>20|n=>n,fun n=>n⟩
theorem Tryz.lays166:Go.Proofs.Lays.n166 Go.Proofs.Tryz.prog Tryz.lays166_ren:={
 mixed:=by kernel_rfl,
 f166:=Go.Proofs.Tryz.func98.trans (congrArg some (by kernel_rfl)),
 f240:=Go.Proofs.Tryz.func152.trans (congrArg some (by kernel_rfl)),
 f276:=Go.Proofs.Tryz.func198.trans (congrArg some (by kernel_rfl)),
 t0:=Go.Proofs.Tryz.underlying0,
 a0:=Go.Proofs.Tryz.isAgg0,
 z0:=Go.Proofs.Tryz.sizeOf0,
 v0:=Go.Proofs.Tryz.zeroValue0,
 t3:=Go.Proofs.Tryz.underlying3,
 a3:=Go.Proofs.Tryz.isAgg3,
 z3:=Go.Proofs.Tryz.sizeOf3,
 v3:=Go.Proofs.Tryz.zeroValue3,
 t4:=Go.Proofs.Tryz.underlying4,
 a4:=Go.Proofs.Tryz.isAgg4,
 z4:=Go.Proofs.Tryz.sizeOf4,
 v4:=Go.Proofs.Tryz.zeroValue4,
 t9:=Go.Proofs.Tryz.underlying9,
 a9:=Go.Proofs.Tryz.isAgg9,
 z9:=Go.Proofs.Tryz.sizeOf9,
 v9:=Go.Proofs.Tryz.zeroValue9,
 t20:=Go.Proofs.Tryz.underlying20,
 a20:=Go.Proofs.Tryz.isAgg20,
 z20:=Go.Proofs.Tryz.sizeOf20,
 v20:=Go.Proofs.Tryz.zeroValue20,
 t37:=Go.Proofs.Tryz.underlying145,
 a37:=Go.Proofs.Tryz.isAgg145,
 z37:=Go.Proofs.Tryz.sizeOf145,
 v37:=Go.Proofs.Tryz.zeroValue145,
 t70:=Go.Proofs.Tryz.underlying144,
 a70:=Go.Proofs.Tryz.isAgg144,
 z70:=Go.Proofs.Tryz.sizeOf144,
 v70:=Go.Proofs.Tryz.zeroValue144,
 t72:=Go.Proofs.Tryz.underlying147,
 a72:=Go.Proofs.Tryz.isAgg147,
 z72:=Go.Proofs.Tryz.sizeOf147,
 v72:=Go.Proofs.Tryz.zeroValue147,
 t75:=Go.Proofs.Tryz.underlying149,
 a75:=Go.Proofs.Tryz.isAgg149,
 z75:=Go.Proofs.Tryz.sizeOf149,
 v75:=Go.Proofs.Tryz.zeroValue149,
 t164:=Go.Proofs.Tryz.underlying246,
 a164:=Go.Proofs.Tryz.isAgg246,
 z164:=Go.Proofs.Tryz.sizeOf246,
 v164:=Go.Proofs.Tryz.zeroValue246}
theorem Tryz.extra166:Go.Proofs.Builder.Extra Go.Proofs.Tryz.prog Tryz.lays166_ren:={
 sizeBuilder:=by kernel_rfl,
 liesBuilder:=by kernel_rfl,
 t5:=Go.Proofs.Tryz.underlying5,
 a5:=Go.Proofs.Tryz.isAgg5,
 z5:=Go.Proofs.Tryz.sizeOf5,
 v5:=Go.Proofs.Tryz.zeroValue5,
 infoByte:=by kernel_rfl,
 cellsByte:=by kernel_rfl,
 sizeByte:=by kernel_rfl,
 neB5:=by decide}
noncomputable abbrev z5q:Code:=Tryz.f98.body.getD .skip
theorem z5c:Ent Tryz.prog 98:=⟨Tryz.f98,z5q,Tryz.func98,by kernel_rfl,by kernel_rfl⟩
def Tb84:Funs:=Tb83.add 98 [] (zeh 147 5)
theorem o84:Okt Tryz.prog Tb84:=⟨o83.mix,zjz o83.nat (z1k7 _ _),z17p o83.owes z5c Tryz.lays166 Tryz.extra166 rfl rfl rfl⟩
def z1jj:Env:=e0 [.str,.unit]
def Tb85:Funs:=Tb84.add 97 [.str,.unit] (pz .str (.spc (.bld 147 5) .unit .unit) (.spc (.bld 147 5) .unit .unit) [[]] Q239 (fun _ r K=>K [] (some ⟨(.spc (.bld 147 5) .unit .unit),r,[[]]⟩)))
theorem o85:Okt Tryz.prog Tb85:=sz z1jj Tryz.f97 (fun R kk x0 x1 K=>zjh x0 x1 (fun a0=>K [] (some ⟨(.spc (.bld 147 5) .unit .unit),a0,[[]]⟩))) o84 (ek _ _ _ _) Tryz.func97 (by kernel_rfl) rfl (fun _ _ _ _ _ _ h=>h _ _) (fun _ _ _ _ _=>by kernel_rfl) fun R kk e x0 x1 K=>by
 simp only[Q239,zjh,nn_]
def zn1:Env:=tab.env (fun i=>bif Nat.beq i 3 then [2,3,7,8,9] else []) (fun i=>bif Nat.beq i 3 then [2,3] else []) [2] [y5]
def zhf(a:Zt12)(b c:Int)(d e:Zt6):Option R:=loopR (ev zn1 (Tb85 R) kk (sub [1,1,0,1,0,0] (cd Tryz.f101))) [2,3,7,8,9] [2,3] k ⟨uS 2 ([.ptr 3 (.pair (.int .u64) (.pair (.int .u64) .unit)) []]::[.ptr 4 (.pair (.int .u64) (.pair (.int .u64) .unit)) []]::uS 3 ([.dat (.sl 90 (.pair (.int .i64) (.pair .str .unit))) a []]::[tI b]::[tI c]::uS 9 [])),nS 3 ((some ⟨(.pair (.int .u64) (.pair (.int .u64) .unit)),d,[]⟩)::(some ⟨(.pair (.int .u64) (.pair (.int .u64) .unit)),e,[]⟩)::nS 15 [])⟩ J
def zcr(a b:Zt6):State:=⟨uS 2 ([.ptr 3 (.pair (.int .u64) (.pair (.int .u64) .unit)) []]::[.ptr 4 (.pair (.int .u64) (.pair (.int .u64) .unit)) []]::uS 15 []),nS 3 ((some ⟨(.pair (.int .u64) (.pair (.int .u64) .unit)),a,[]⟩)::(some ⟨(.pair (.int .u64) (.pair (.int .u64) .unit)),b,[]⟩)::nS 15 [])⟩
def z11o:KX R:=(zl 0 (kSeq zn1 (Tb85 R) kk (sub [1,1,1] (cd Tryz.f101)) (kFin zn1 Tryz.f101.results.toList none K)))
theorem z1fv(a:Zt12)(b c:Int)(d e:Zt6):zhf R kk (k+1) J a b c d e=
 zrt a b c d e (zhf R kk k J) (fun a0 a1=>J (.exit 0) (zcr a0 a1)):=by kernel_rfl
theorem z15g(a b:Zt6):z11o R kk K (.exit 0) (zcr a b)=
 zru a b (fun a0=>K [.dat (.pair (.int .u64) (.pair (.int .u64) .unit)) a0 []] none):=by kernel_rfl
theorem z1be{kk:Nat}(hF:kk=FUEL)(t7:Zt12)(t8 t9:Int)(bt2 bt3:Zt6):zhf R kk k J t7 t8 t9 bt2 bt3=(z9h k t7 t8 t9 bt2 bt3).bind fun e=>J (.exit 0) (zcr e.1 e.2):=by
 induction k generalizing t7 t8 t9 bt2 bt3 with
 |zero=>rfl
 |succ k ih=>
  rw[z1fv]
  simp only[z9h,zrt,ih,nn_]
def Tb86:Funs:=Tb85.add 101 [y5] (pu1 y5 Q174 (fun _ r K=>K [.dat (.pair (.int .u64) (.pair (.int .u64) .unit)) r []] none))
theorem o86:Okt Tryz.prog Tb86:=st1 zn1 Tryz.f101 (fun R kk x0 K=>zhg x0 (zhf R kk kk (z11o R kk K))) o85 (ek _ _ _ _) Tryz.func101 (by kernel_rfl) rfl (fun _ _ _ _ _ _ h=>h _ _) (fun _ _ _ _=>by kernel_rfl) fun R kk e x0 K=>by
 simp only[Q174,zhg,zru,z1be (hF:=e),z15g,nn_,←e]
def Q37_E:Env:=e0 [(.pair (.int .u64) (.pair (.int .u64) .unit)),(.int .i64)]
def Tb87:Funs:=Tb86.add 156 [(.pair (.int .u64) (.pair (.int .u64) .unit)),(.int .i64)] (pu2 (.pair (.int .u64) (.pair (.int .u64) .unit)) (.int .i64) Q37 (fun _ r K=>K [tB r] none))
theorem o87:Okt Tryz.prog Tb87:=st2 Q37_E Tryz.f156 (fun R kk x0 x1 K=>zo6 x0 x1 (fun a0=>K [tB a0] none)) o86 (ek _ _ _ _) Tryz.func156 (by kernel_rfl) rfl (fun _ _ _ _ _ _ h=>h _ _) (fun _ _ _ _ _=>by kernel_rfl) fun R kk e x0 x1 K=>by
 simp only[Q37,zo6,nn_]
def Q36_E:Env:=e0 [(.pair (.int .u64) (.pair (.int .u64) .unit))]
def Tb88:Funs:=Tb87.add 157 [(.pair (.int .u64) (.pair (.int .u64) .unit))] (pu1 (.pair (.int .u64) (.pair (.int .u64) .unit)) Q36 (fun _ r K=>K [.dat (.int .u64) r.1 [],.dat (.int .u64) r.2 []] none))
theorem o88:Okt Tryz.prog Tb88:=st1 Q36_E Tryz.f157 (fun R kk x0 K=>zy0 x0 (fun a0 a1=>K [.dat (.int .u64) a0 [],.dat (.int .u64) a1 []] none)) o87 (ek _ _ _ _) Tryz.func157 (by kernel_rfl) rfl (fun _ _ _ _ _ _ h=>h _ _) (fun _ _ _ _=>by kernel_rfl) fun R kk e x0 K=>by
 simp only[Q36,zy0,nn_]
def Q8_E:Env:=tab.env (fun i=>bif Nat.beq i 3 then [0,2,3,5] else []) (fun i=>bif Nat.beq i 3 then [2,3] else []) [2] [(.int .u64)]
def Q8_L0(a b:Int)(c d:(List Int)):Option R:=loopR (ev Q8_E (Tb88 R) kk (sub [1,1,0,1,0,0] (cd Tryz.f158))) [0,2,3,5] [2,3] k ⟨[.dat (.int .u64) a []]::uS 1 ([.ptr 3 (.arr 8 (.int .u8)) []]::[.ptr 4 (.arr 8 (.int .u8)) []]::uS 1 ([tI b]::uS 12 [])),nS 3 ((some ⟨(.arr 8 (.int .u8)),c,[]⟩)::(some ⟨(.arr 8 (.int .u8)),d,[]⟩)::nS 14 [])⟩ J
def ztz(a b:(List Int)):State:=⟨uS 2 ([.ptr 3 (.arr 8 (.int .u8)) []]::[.ptr 4 (.arr 8 (.int .u8)) []]::uS 14 []),nS 3 ((some ⟨(.arr 8 (.int .u8)),a,[]⟩)::(some ⟨(.arr 8 (.int .u8)),b,[]⟩)::nS 14 [])⟩
def Q8_K0:KX R:=(zl 0 (kSeq Q8_E (Tb88 R) kk (sub [1,1,1] (cd Tryz.f158)) (kFin Q8_E Tryz.f158.results.toList none K)))
theorem Q8_d0(a b:Int)(c d:(List Int)):Q8_L0 R kk (k+1) J a b c d=
 Q8_s1 a b c d (Q8_L0 R kk k J) (fun a0 a1=>J (.exit 0) (ztz a0 a1)):=by kernel_rfl
theorem z1gw(a b:(List Int)):Q8_K0 R kk K (.exit 0) (ztz a b)=
 Q8_s2 a b (fun a0=>K [.dat (.arr 8 (.int .u8)) a0 []] none):=by kernel_rfl
theorem z1jz{kk:Nat}(hF:kk=FUEL)(x_0 t5:Int)(bt2 bt3:(List Int)):Q8_L0 R kk k J x_0 t5 bt2 bt3=(Q8_l0 k x_0 t5 bt2 bt3).bind fun e=>J (.exit 0) (ztz e.1 e.2):=by
 induction k generalizing x_0 t5 bt2 bt3 with
 |zero=>rfl
 |succ k ih=>
  rw[Q8_d0]
  simp only[Q8_l0,Q8_s1,ih,nn_]
def Tb89:Funs:=Tb88.add 158 [(.int .u64)] (pu1 (.int .u64) Q8 (fun _ r K=>K [.dat (.arr 8 (.int .u8)) r []] none))
theorem o89:Okt Tryz.prog Tb89:=st1 Q8_E Tryz.f158 (fun R kk x0 K=>Q8_s0 x0 (Q8_L0 R kk kk (Q8_K0 R kk K))) o88 (ek _ _ _ _) Tryz.func158 (by kernel_rfl) rfl (fun _ _ _ _ _ _ h=>h _ _) (fun _ _ _ _=>by kernel_rfl) fun R kk e x0 K=>by
 simp only[Q8,Q8_s0,Q8_s2,z1jz (hF:=e),z1gw,nn_,←e]
def zmv:Env:=tab.env (fun i=>bif Nat.beq i 3 then [0,3,4] else []) (fun i=>bif Nat.beq i 3 then [3] else []) [] [.str]
def zh3(a:ByteArray)(b:(List Int))(c:Int):Option R:=loopR (ev zmv (Tb89 R) kk (sub [1,1,0,1,0,0] (cd Tryz.f159))) [0,3,4] [3] k ⟨[tS a]::uS 2 ([.dat (.sl 5 (.int .u8)) b [[]]]::[tI c]::uS 25 []),nS 31 []⟩ J
def zcj(a:(List Int)):State:=⟨uS 3 ([.dat (.sl 5 (.int .u8)) a [[]]]::uS 26 []),nS 31 []⟩
def z11m:KX R:=(zl 0 (kSeq zmv (Tb89 R) kk (sub [1,1,1] (cd Tryz.f159)) (kFin zmv Tryz.f159.results.toList none K)))
theorem z1fq(a:ByteArray)(b:(List Int))(c:Int):zh3 R kk (k+1) J a b c=
 z9c a b c (zh3 R kk k J) (fun a0=>J (.exit 0) (zcj a0)):=by kernel_rfl
theorem z158(a:(List Int)):z11m R kk K (.exit 0) (zcj a)=
 zrd a (fun a0=>K [tS a0] none):=by kernel_rfl
theorem z1b9{kk:Nat}(hF:kk=FUEL)(s_0:ByteArray)(t3:(List Int))(t4:Int):zh3 R kk k J s_0 t3 t4=(z5w k s_0 t3 t4).bind fun e=>J (.exit 0) (zcj e):=by
 induction k generalizing s_0 t3 t4 with
 |zero=>rfl
 |succ k ih=>
  rw[z1fq]
  simp only[z5w,z9c,ih,nn_]
def Tb90:Funs:=Tb89.add 159 [.str] (pu1 .str Q160 (fun _ r K=>K [tS r] none))
theorem o90:Okt Tryz.prog Tb90:=st1 zmv Tryz.f159 (fun R kk x0 K=>zh4 x0 (zh3 R kk kk (z11m R kk K))) o89 (ek _ _ _ _) Tryz.func159 (by kernel_rfl) rfl (fun _ _ _ _ _ _ h=>h _ _) (fun _ _ _ _=>by kernel_rfl) fun R kk e x0 K=>by
 simp only[Q160,zh4,zrd,z1b9 (hF:=e),z158,nn_,←e]
def Q6_E:Env:=e0 [(.int .i64),(.pair (.int .u64) (.pair (.int .u64) .unit))]
def Tb91:Funs:=Tb90.add 100 [(.int .i64),(.pair (.int .u64) (.pair (.int .u64) .unit))] (pu2 (.int .i64) (.pair (.int .u64) (.pair (.int .u64) .unit)) Q6 (fun _ r K=>K [tS r.1,tI r.2] none))
theorem o91:Okt Tryz.prog Tb91:=st2 Q6_E Tryz.f100 (fun R kk x0 x1 K=>Q6_s0 x0 x1 (fun a0 a1=>K [tS a0,tI a1] none)) o90 (ek _ _ _ _) Tryz.func100 (by kernel_rfl) rfl (fun _ _ _ _ _ _ h=>h _ _) (fun _ _ _ _ _=>by kernel_rfl) fun R kk e x0 x1 K=>by
 simp only[Q6,Q6_s0,nn_]
def Q31_E:Env:=tab.env (fun i=>bif Nat.beq i 5 then [0,6,7,19] else []) (fun i=>bif Nat.beq i 5 then [0,6,19] else []) [] [(.int .i64),(.int .i64)]
def znz(a:Int)(b:Nat)(c:Int)(d:Nat)(e:(List Int)):Option R:=loopR (ev Q31_E (Tb91 R) kk (sub [1,1,1,0,1,0,0] (cd Tryz.f201))) [0,6,7,19] [0,6,19] k ⟨[tI a]::uS 5 ([.ptr 20 (.spc (.hdr b) (.int .u8) .unit) []]::[tI c]::uS 11 ([.ptr 20 (.spc (.hdr d) (.int .u8) .unit) []]::uS 19 [])),nS 20 ((some ⟨(.spc .row (.int .u8) .unit),e,[]⟩)::nS 19 [])⟩ J
def zle(a:Int)(b c:Nat)(d:(List Int)):State:=⟨[tI a]::uS 5 ([.ptr 20 (.spc (.hdr b) (.int .u8) .unit) []]::uS 12 ([.ptr 20 (.spc (.hdr c) (.int .u8) .unit) []]::uS 19 [])),nS 20 ((some ⟨(.spc .row (.int .u8) .unit),d,[]⟩)::nS 19 [])⟩
def z16t:KX R:=(zl 0 (kSeq Q31_E (Tb91 R) kk (sub [1,1,1,1] (cd Tryz.f201)) (kFin Q31_E Tryz.f201.results.toList none K)))
theorem z1jp(a:Int)(b:Nat)(c:Int)(d:Nat)(e:(List Int)):znz R kk (k+1) J a b c d e=
 ze4 a b c d e (znz R kk k J) (fun a0 a1 a2 a3=>J (.exit 0) (zle a0 a1 a2 a3)):=by kernel_rfl
theorem z1cd(a:Int)(b c:Nat)(d:(List Int)):z16t R kk K (.exit 0) (zle a b c d)=
 zo1 a b c d (fun a0 a1=>K [tS a0,tB a1] none):=by kernel_rfl
theorem z1gs{kk:Nat}(hF:kk=FUEL)(n_0:Int)(nt6:Nat)(t7:Int)(nt19:Nat)(bt19:(List Int)):znz R kk k J n_0 nt6 t7 nt19 bt19=(z7q k n_0 nt6 t7 nt19 bt19).bind fun e=>J (.exit 0) (zle e.1 e.2.1 e.2.2.1 e.2.2.2):=by
 induction k generalizing n_0 nt6 t7 nt19 bt19 with
 |zero=>rfl
 |succ k ih=>
  rw[z1jp]
  simp only[z7q,ze4,ih,nn_]
def Tb92:Funs:=Tb91.add 201 [(.int .i64),(.int .i64)] (pu2 (.int .i64) (.int .i64) Q31 (fun _ r K=>K [tS r.1,tB r.2] none))
theorem o92:Okt Tryz.prog Tb92:=st2 Q31_E Tryz.f201 (fun R kk x0 x1 K=>zo0 x0 x1 (fun a0 a1=>K [tS a0,tB a1] none) (znz R kk kk (z16t R kk K))) o91 (ek _ _ _ _) Tryz.func201 (by kernel_rfl) rfl (fun _ _ _ _ _ _ h=>h _ _) (fun _ _ _ _ _=>by kernel_rfl) fun R kk e x0 x1 K=>by
 simp only[Q31,zo0,zo1,z1gs (hF:=e),z1cd,nn_,←e]
def z1is:Env:=e0 [(.int .i64),(.int .i64),(.int .i64)]
def Tb93:Funs:=Tb92.add 161 [(.int .i64),(.int .i64),(.int .i64)] (pu3 (.int .i64) (.int .i64) (.int .i64) Q184 (fun _ r K=>K [tS r.1,tI r.2] none))
theorem o93:Okt Tryz.prog Tb93:=st3 z1is Tryz.f161 (fun R kk x0 x1 x2 K=>zhr x0 x1 x2 (fun a0 a1=>K [tS a0,tI a1] none)) o92 (ek _ _ _ _) Tryz.func161 (by kernel_rfl) rfl (fun _ _ _ _ _ _ h=>h _ _) (fun _ _ _ _ _ _=>by kernel_rfl) fun R kk e x0 x1 x2 K=>by
 simp only[Q184,zhr,nn_]
def Q12_E:Env:=e0 [(.int .i64),y9,.str]
def Tb94:Funs:=Tb93.add 102 [(.int .i64),y9,.str] (pu3 (.int .i64) y9 .str Q12 (fun _ r K=>K [tS r.1,tI r.2] none))
theorem o94:Okt Tryz.prog Tb94:=st3 Q12_E Tryz.f102 (fun R kk x0 x1 x2 K=>zmk x0 x1 x2 (fun a0 a1=>K [tS a0,tI a1] none)) o93 (ek _ _ _ _) Tryz.func102 (by kernel_rfl) rfl (fun _ _ _ _ _ _ h=>h _ _) (fun _ _ _ _ _ _=>by kernel_rfl) fun R kk e x0 x1 x2 K=>by
 simp only[Q12,zmk,nn_]
def Tryz.lays169_ren:Go.Shelf.Ren:=⟨fun|169=>103|n=>n,fun|70=>144|9=>9|0=>0|72=>147|37=>145|127=>217|3=>3|5=>5|n=>n,fun n=>n⟩
theorem Tryz.lays169:Go.Proofs.Lays.n169 Go.Proofs.Tryz.prog Tryz.lays169_ren:={
 mixed:=by kernel_rfl,
 f169:=Go.Proofs.Tryz.func103.trans (congrArg some (by kernel_rfl)),
 t0:=Go.Proofs.Tryz.underlying0,
 a0:=Go.Proofs.Tryz.isAgg0,
 z0:=Go.Proofs.Tryz.sizeOf0,
 v0:=Go.Proofs.Tryz.zeroValue0,
 t3:=Go.Proofs.Tryz.underlying3,
 a3:=Go.Proofs.Tryz.isAgg3,
 z3:=Go.Proofs.Tryz.sizeOf3,
 v3:=Go.Proofs.Tryz.zeroValue3,
 t9:=Go.Proofs.Tryz.underlying9,
 a9:=Go.Proofs.Tryz.isAgg9,
 z9:=Go.Proofs.Tryz.sizeOf9,
 v9:=Go.Proofs.Tryz.zeroValue9,
 t37:=Go.Proofs.Tryz.underlying145,
 a37:=Go.Proofs.Tryz.isAgg145,
 z37:=Go.Proofs.Tryz.sizeOf145,
 v37:=Go.Proofs.Tryz.zeroValue145,
 t70:=Go.Proofs.Tryz.underlying144,
 a70:=Go.Proofs.Tryz.isAgg144,
 z70:=Go.Proofs.Tryz.sizeOf144,
 v70:=Go.Proofs.Tryz.zeroValue144,
 t72:=Go.Proofs.Tryz.underlying147,
 a72:=Go.Proofs.Tryz.isAgg147,
 z72:=Go.Proofs.Tryz.sizeOf147,
 v72:=Go.Proofs.Tryz.zeroValue147,
 t127:=Go.Proofs.Tryz.underlying217,
 a127:=Go.Proofs.Tryz.isAgg217,
 z127:=Go.Proofs.Tryz.sizeOf217,
 v127:=Go.Proofs.Tryz.zeroValue217}
theorem Tryz.extra169:Go.Proofs.Builder.Extra Go.Proofs.Tryz.prog Tryz.lays169_ren:={
 sizeBuilder:=by kernel_rfl,
 liesBuilder:=by kernel_rfl,
 t5:=Go.Proofs.Tryz.underlying5,
 a5:=Go.Proofs.Tryz.isAgg5,
 z5:=Go.Proofs.Tryz.sizeOf5,
 v5:=Go.Proofs.Tryz.zeroValue5,
 infoByte:=by kernel_rfl,
 cellsByte:=by kernel_rfl,
 sizeByte:=by kernel_rfl,
 neB5:=by decide}
noncomputable abbrev z85:Code:=Tryz.f103.body.getD .skip
theorem z6p:Ent Tryz.prog 103:=⟨Tryz.f103,z85,Tryz.func103,by kernel_rfl,by kernel_rfl⟩
def Tb95:Funs:=Tb94.add 103 [] (zeg 147 5)
theorem o95:Okt Tryz.prog Tb95:=⟨o94.mix,zjz o94.nat (z1k6 _ _),z17o o94.owes z6p Tryz.lays169 Tryz.extra169 rfl rfl rfl⟩
def znn:Env:={tab.env (fun i=>bif Nat.beq i 11 then [2,5,7,8,50,51,52] else []) (fun i=>bif Nat.beq i 11 then [5,7] else []) [5] [y15,y5] with bl:=fun t=>bif Nat.beq t 147 then some 5 else none}
def zjf(a:Zt12)(b c:Int)(d:Zt18)(e:Zt6)(f:ByteArray):Option R:=loopR (ev znn (Tb95 R) kk (sub [1,1,1,1,1,1,1,1,0,1,0,0] (cd Tryz.f38))) [2,5,7,8,50,51,52] [5,7] k ⟨uS 2 ([.ptr 3 y15 []]::uS 2 ([.ptr 6 (.pair (.int .i64) (.pair (.int .i64) .unit)) []]::uS 1 ([.ptr 8 (.spc (.bld 147 5) .unit .unit) []]::[.ptr 8 (.spc (.clo 97) (.spc (.bld 147 5) .unit .unit) .unit) []]::uS 41 ([.dat (.sl 90 (.pair (.int .i64) (.pair .str .unit))) a []]::[tI b]::[tI c]::uS 25 [])))),nS 3 ((some ⟨y15,d,[]⟩)::nS 2 ((some ⟨(.pair (.int .i64) (.pair (.int .i64) .unit)),e,[]⟩)::nS 1 ((some ⟨(.spc (.bld 147 5) .unit .unit),f,[[]]⟩)::nS 70 [])))⟩ J
def zdp(a:Zt6)(b:ByteArray):State:=⟨uS 5 ([.ptr 6 (.pair (.int .i64) (.pair (.int .i64) .unit)) []]::uS 1 ([.ptr 8 (.spc (.bld 147 5) .unit .unit) []]::uS 70 [])),nS 6 ((some ⟨(.pair (.int .i64) (.pair (.int .i64) .unit)),a,[]⟩)::nS 1 ((some ⟨(.spc (.bld 147 5) .unit .unit),b,[[]]⟩)::nS 70 []))⟩
def z11u:KX R:=(zl 0 (kSeq znn (Tb95 R) kk (sub [1,1,1,1,1,1,1,1,1] (cd Tryz.f38)) (kFin znn Tryz.f38.results.toList none K)))
theorem z1gh(a:Zt12)(b c:Int)(d:Zt18)(e:Zt6)(f:ByteArray):zjf R kk (k+1) J a b c d e f=
 zt9 a b c d e f (zjf R kk k J) (fun a0 a1=>J (.exit 0) (zdp a0 a1)):=by kernel_rfl
theorem z16d(a:Zt6)(b:ByteArray):z11u R kk K (.exit 0) (zdp a b)=
 zta a b (fun a0 a1=>K [tS a0,.dat (.pair (.int .i64) (.pair (.int .i64) .unit)) a1 []] none):=by kernel_rfl
theorem z1c1{kk:Nat}(hF:kk=FUEL)(t50:Zt12)(t51 t52:Int)(bt2:Zt18)(bt5:Zt6)(bt7:ByteArray):zjf R kk k J t50 t51 t52 bt2 bt5 bt7=(z9w k t50 t51 t52 bt2 bt5 bt7).bind fun e=>J (.exit 0) (zdp e.1 e.2):=by
 induction k generalizing t50 t51 t52 bt2 bt5 bt7 with
 |zero=>rfl
 |succ k ih=>
  rw[z1gh]
  simp only[z9w,zt9,ih,nn_]
def Tb96:Funs:=Tb95.add 38 [y15,y5] (pu2 y15 y5 Q238 (fun _ r K=>K [tS r.1,.dat (.pair (.int .i64) (.pair (.int .i64) .unit)) r.2 []] none))
theorem o96:Okt Tryz.prog Tb96:=st2 znn Tryz.f38 (fun R kk x0 x1 K=>zjg x0 x1 (fun a0 a1=>K [tS a0,.dat (.pair (.int .i64) (.pair (.int .i64) .unit)) a1 []] none) (zjf R kk kk (z11u R kk K))) o95 ((ek _ _ _ _).bld 147 5 (by kernel_rfl)) Tryz.func38 (by kernel_rfl) rfl (fun _ _ _ _ _ _ h=>h _ _) (fun _ _ _ _ _=>by kernel_rfl) fun R kk e x0 x1 K=>by
 simp only[Q238,zjg,zta,z1c1 (hF:=e),z16d,nn_,←e]
def z1j0:Env:=e0 [y5,(.pair (.int .i64) (.pair (.int .i64) .unit)),.unit,.unit]
def Tb97:Funs:=Tb96.add 36 [y5,(.pair (.int .i64) (.pair (.int .i64) .unit)),.unit,.unit] (pv y5 (.pair (.int .i64) (.pair (.int .i64) .unit)) y18 y19 Q198 (fun _ r K=>K [tI r.1,tS r.2] none))
theorem o97:Okt Tryz.prog Tb97:=sv z1j0 Tryz.f36 (fun R kk x0 x1 x2 x3 K=>zia x0 x1 x2 x3 (fun a0 a1=>K [tI a0,tS a1] none)) o96 (ek _ _ _ _) Tryz.func36 (by kernel_rfl) rfl (fun _ _ _ _ _ _ h=>h _ _) (fun _ _ _ _ _ _ _=>by kernel_rfl) fun R kk e x0 x1 x2 x3 K=>by
 simp only[Q198,zia,nn_]
def znr:Env:=tab.env (fun i=>bif Nat.beq i 2 then [1,9,10,11] else []) (fun i=>bif Nat.beq i 2 then [4,5] else []) [] [y16,.str]
def zjw(a:ByteArray)(b:Zt14)(c d:Int):Option R:=loopR (ev znr (Tb97 R) kk (sub [1,0,1,0,0] (cd Tryz.f108))) [1,9,10,11] [4,5] k ⟨uS 1 ([tS a]::uS 7 ([.dat (.sl 116 (.pair .str (.pair .str .unit))) b []]::[tI c]::[tI d]::uS 10 [])),nS 23 []⟩ J
def ze2(a:ByteArray)(b:Bool):State:=⟨uS 4 ([tS a]::[tB b]::uS 16 []),nS 23 []⟩
def ze3:State:=⟨uS 22 [],nS 23 []⟩
def ztt:KX R:=(zl 0 (kSeq znr (Tb97 R) kk (sub [1,1] (cd Tryz.f108)) (kFin znr Tryz.f108.results.toList none K)))
theorem z1gp(a:ByteArray)(b:Zt14)(c d:Int):zjw R kk (k+1) J a b c d=
 ztu a b c d (fun a0 a1=>J .ret (ze2 a0 a1)) (zjw R kk k J) (J (.exit 0) (ze3)):=by kernel_rfl
theorem z16q(a:ByteArray)(b:Bool):ztt R kk K .ret (ze2 a b)=
 ztv a b (fun a0 a1=>K [tS a0,tB a1] none):=by kernel_rfl
theorem z16r:ztt R kk K (.exit 0) (ze3)=
 ztw (fun a0 a1=>K [tS a0,tB a1] none):=by kernel_rfl
theorem z1c9{kk:Nat}(hF:kk=FUEL)(t_1:ByteArray)(t9:Zt14)(t10 t11:Int):zjw R kk k J t_1 t9 t10 t11=(za1 k t_1 t9 t10 t11).bind fun e=>(Sum.elim (fun(we:Zt5)=>J .ret (ze2 we.1 we.2)) (fun(we:Unit)=>J (.exit 0) (ze3)) e):=by
 induction k generalizing t_1 t9 t10 t11 with
 |zero=>rfl
 |succ k ih=>
  rw[z1gp]
  simp only[za1,ztu,ih,nn_]
def Tb98:Funs:=Tb97.add 108 [y16,.str] (pu2 y16 .str Q244 (fun _ r K=>K [tS r.1,tB r.2] none))
theorem o98:Okt Tryz.prog Tb98:=st2 znr Tryz.f108 (fun R kk x0 x1 K=>zjx x0 x1 (zjw R kk kk (ztt R kk K))) o97 (ek _ _ _ _) Tryz.func108 (by kernel_rfl) rfl (fun _ _ _ _ _ _ h=>h _ _) (fun _ _ _ _ _=>by kernel_rfl) fun R kk e x0 x1 K=>by
 simp only[Q244,zjx,ztv,ztw,z1c9 (hF:=e),z16q,z16r,nn_,←e]
def znq:Env:={tab.env (fun i=>bif Nat.beq i 2 then [1,4,9,10,11] else []) (fun i=>bif Nat.beq i 2 then [4,5] else []) [4] [y16,(.int .i64)] with ro:=true}
def zju(a:Int)(b:Zt22)(c d:Int)(e:Zt20):Option R:=loopR (ev znq (Tb98 R) kk (sub [1,0,1,0,0] (cd Tryz.f109))) [1,4,9,10,11] [4,5] k ⟨uS 1 ([tI a]::uS 2 ([.ptr 5 y12 []]::uS 4 ([.dat (.sl 59 y12) b []]::[tI c]::[tI d]::uS 10 []))),nS 5 ((some ⟨y12,e,[[4]]⟩)::nS 17 [])⟩ J
def ze0(a:Bool)(b:Zt20):State:=⟨uS 4 ([.ptr 5 y12 []]::[tB a]::uS 16 []),nS 5 ((some ⟨y12,b,[]⟩)::nS 17 [])⟩
def ze1(a:Zt20):State:=⟨uS 4 ([.ptr 5 y12 []]::uS 17 []),nS 5 ((some ⟨y12,a,[[4]]⟩)::nS 17 [])⟩
def ztp:KX R:=(zl 0 (kSeq znq (Tb98 R) kk (sub [1,1] (cd Tryz.f109)) (kFin znq Tryz.f109.results.toList none K)))
theorem z1go(a:Int)(b:Zt22)(c d:Int)(e:Zt20):zju R kk (k+1) J a b c d e=
 ztq a b c d e (fun a0 a1=>J .ret (ze0 a0 a1)) (zju R kk k J) (fun a0=>J (.exit 0) (ze1 a0)):=by kernel_rfl
theorem z16o(a:Bool)(b:Zt20):ztp R kk K .ret (ze0 a b)=
 ztr a b (fun a0 a1=>K [.dat y12 a0 [],tB a1] none):=by kernel_rfl
theorem z16p(a:Zt20):ztp R kk K (.exit 0) (ze1 a)=
 zts a (fun a0 a1=>K [.dat y12 a0 [],tB a1] none):=by kernel_rfl
theorem z1c8{kk:Nat}(hF:kk=FUEL)(no_1:Int)(t9:Zt22)(t10 t11:Int)(bt4:Zt20):zju R kk k J no_1 t9 t10 t11 bt4=(za0 k no_1 t9 t10 t11 bt4).bind fun e=>(Sum.elim (fun(we:(Bool×Zt20))=>J .ret (ze0 we.1 we.2)) (fun(we:Zt20)=>J (.exit 0) (ze1 we)) e):=by
 induction k generalizing no_1 t9 t10 t11 bt4 with
 |zero=>rfl
 |succ k ih=>
  rw[z1go]
  simp only[za0,ztq,ih,nn_]
def Tb99:Funs:=Tb98.add 109 [y16,(.int .i64)] (pu2 y16 (.int .i64) Q243 (fun _ r K=>K [.dat y12 r.1 [],tB r.2] none))
theorem o99:Okt Tryz.prog Tb99:=st2 znq Tryz.f109 (fun R kk x0 x1 K=>zjv x0 x1 (zju R kk kk (ztp R kk K))) o98 ((ek _ _ _ _).ro _) Tryz.func109 (by kernel_rfl) rfl (fun _ _ _ _ _ _ h=>h _ _) (fun _ _ _ _ _=>by kernel_rfl) fun R kk e x0 x1 K=>by
 simp only[Q243,zjv,ztr,zts,z1c8 (hF:=e),z16o,z16p,nn_,←e]
def Tryz.laysRepeat_ren:Go.Shelf.Ren:=⟨fun|105=>206|212=>216|99=>217|165=>218|166=>98|170=>219|169=>103|263=>230|264=>231|206=>232|240=>152|241=>233|276=>198|277=>238|n=>n,fun|9=>9|3=>3|4=>4|20=>20|0=>0|46=>248|109=>255|5=>5|72=>147|76=>150|51=>267|146=>268|53=>101|148=>211|70=>144|37=>145|75=>149|127=>217|164=>246|80=>158|n=>n,fun n=>n⟩
theorem Tryz.laysRepeat:Go.Proofs.Lays.n105 Go.Proofs.Tryz.prog Tryz.laysRepeat_ren:={
 mixed:=by kernel_rfl,
 f99:=Go.Proofs.Tryz.func217.trans (congrArg some (by kernel_rfl)),
 f105:=Go.Proofs.Tryz.func206.trans (congrArg some (by kernel_rfl)),
 f165:=Go.Proofs.Tryz.func218.trans (congrArg some (by kernel_rfl)),
 f166:=Go.Proofs.Tryz.func98.trans (congrArg some (by kernel_rfl)),
 f169:=Go.Proofs.Tryz.func103.trans (congrArg some (by kernel_rfl)),
 f170:=Go.Proofs.Tryz.func219.trans (congrArg some (by kernel_rfl)),
 f206:=Go.Proofs.Tryz.func232.trans (congrArg some (by kernel_rfl)),
 f212:=Go.Proofs.Tryz.func216.trans (congrArg some (by kernel_rfl)),
 f240:=Go.Proofs.Tryz.func152.trans (congrArg some (by kernel_rfl)),
 f241:=Go.Proofs.Tryz.func233.trans (congrArg some (by kernel_rfl)),
 f263:=Go.Proofs.Tryz.func230.trans (congrArg some (by kernel_rfl)),
 f264:=Go.Proofs.Tryz.func231.trans (congrArg some (by kernel_rfl)),
 f276:=Go.Proofs.Tryz.func198.trans (congrArg some (by kernel_rfl)),
 f277:=Go.Proofs.Tryz.func238.trans (congrArg some (by kernel_rfl)),
 t0:=Go.Proofs.Tryz.underlying0,
 a0:=Go.Proofs.Tryz.isAgg0,
 z0:=Go.Proofs.Tryz.sizeOf0,
 v0:=Go.Proofs.Tryz.zeroValue0,
 t3:=Go.Proofs.Tryz.underlying3,
 a3:=Go.Proofs.Tryz.isAgg3,
 z3:=Go.Proofs.Tryz.sizeOf3,
 v3:=Go.Proofs.Tryz.zeroValue3,
 t4:=Go.Proofs.Tryz.underlying4,
 a4:=Go.Proofs.Tryz.isAgg4,
 z4:=Go.Proofs.Tryz.sizeOf4,
 v4:=Go.Proofs.Tryz.zeroValue4,
 t5:=Go.Proofs.Tryz.underlying5,
 a5:=Go.Proofs.Tryz.isAgg5,
 z5:=Go.Proofs.Tryz.sizeOf5,
 v5:=Go.Proofs.Tryz.zeroValue5,
 t9:=Go.Proofs.Tryz.underlying9,
 a9:=Go.Proofs.Tryz.isAgg9,
 z9:=Go.Proofs.Tryz.sizeOf9,
 v9:=Go.Proofs.Tryz.zeroValue9,
 t20:=Go.Proofs.Tryz.underlying20,
 a20:=Go.Proofs.Tryz.isAgg20,
 z20:=Go.Proofs.Tryz.sizeOf20,
 v20:=Go.Proofs.Tryz.zeroValue20,
 t37:=Go.Proofs.Tryz.underlying145,
 a37:=Go.Proofs.Tryz.isAgg145,
 z37:=Go.Proofs.Tryz.sizeOf145,
 v37:=Go.Proofs.Tryz.zeroValue145,
 t46:=Go.Proofs.Tryz.underlying248,
 a46:=Go.Proofs.Tryz.isAgg248,
 z46:=Go.Proofs.Tryz.sizeOf248,
 v46:=Go.Proofs.Tryz.zeroValue248,
 t51:=Go.Proofs.Tryz.underlying267,
 a51:=Go.Proofs.Tryz.isAgg267,
 z51:=Go.Proofs.Tryz.sizeOf267,
 v51:=Go.Proofs.Tryz.zeroValue267,
 t53:=Go.Proofs.Tryz.underlying101,
 a53:=Go.Proofs.Tryz.isAgg101,
 z53:=Go.Proofs.Tryz.sizeOf101,
 v53:=Go.Proofs.Tryz.zeroValue101,
 t70:=Go.Proofs.Tryz.underlying144,
 a70:=Go.Proofs.Tryz.isAgg144,
 z70:=Go.Proofs.Tryz.sizeOf144,
 v70:=Go.Proofs.Tryz.zeroValue144,
 t72:=Go.Proofs.Tryz.underlying147,
 a72:=Go.Proofs.Tryz.isAgg147,
 z72:=Go.Proofs.Tryz.sizeOf147,
 v72:=Go.Proofs.Tryz.zeroValue147,
 t75:=Go.Proofs.Tryz.underlying149,
 a75:=Go.Proofs.Tryz.isAgg149,
 z75:=Go.Proofs.Tryz.sizeOf149,
 v75:=Go.Proofs.Tryz.zeroValue149,
 t76:=Go.Proofs.Tryz.underlying150,
 a76:=Go.Proofs.Tryz.isAgg150,
 z76:=Go.Proofs.Tryz.sizeOf150,
 v76:=Go.Proofs.Tryz.zeroValue150,
 t109:=Go.Proofs.Tryz.underlying255,
 a109:=Go.Proofs.Tryz.isAgg255,
 z109:=Go.Proofs.Tryz.sizeOf255,
 v109:=Go.Proofs.Tryz.zeroValue255,
 t127:=Go.Proofs.Tryz.underlying217,
 a127:=Go.Proofs.Tryz.isAgg217,
 z127:=Go.Proofs.Tryz.sizeOf217,
 v127:=Go.Proofs.Tryz.zeroValue217,
 t146:=Go.Proofs.Tryz.underlying268,
 a146:=Go.Proofs.Tryz.isAgg268,
 z146:=Go.Proofs.Tryz.sizeOf268,
 v146:=Go.Proofs.Tryz.zeroValue268,
 t148:=Go.Proofs.Tryz.underlying211,
 a148:=Go.Proofs.Tryz.isAgg211,
 z148:=Go.Proofs.Tryz.sizeOf211,
 v148:=Go.Proofs.Tryz.zeroValue211,
 t164:=Go.Proofs.Tryz.underlying246,
 a164:=Go.Proofs.Tryz.isAgg246,
 z164:=Go.Proofs.Tryz.sizeOf246,
 v164:=Go.Proofs.Tryz.zeroValue246}
theorem Tryz.extraRepeat:Go.Proofs.Builder.Extra Go.Proofs.Tryz.prog Tryz.laysRepeat_ren:={
 sizeBuilder:=by kernel_rfl,
 liesBuilder:=by kernel_rfl,
 t5:=Tryz.laysRepeat.t5,
 a5:=Tryz.laysRepeat.a5,
 z5:=Tryz.laysRepeat.z5,
 v5:=Tryz.laysRepeat.v5,
 infoByte:=by kernel_rfl,
 cellsByte:=by kernel_rfl,
 sizeByte:=by kernel_rfl,
 neB5:=by decide}
noncomputable abbrev zm6:Code:=Tryz.f206.body.getD .skip
theorem zfp:Ent Tryz.prog 206:=⟨Tryz.f206,zm6,Tryz.func206,by kernel_rfl,by kernel_rfl⟩
def z86:Pure:=fun R l b K=>noBox b (args2 .str (.int .i64) l fun x0 x1=>(strings_Repeat x0 x1).bind fun r=>K [.dat .str r []] none)
theorem zm7:z86.Nat:=fun R S l b F G K h=>z44 (zv1 fun _ _=>z2n fun _=>h _ _)
def Tb100:Funs:=Tb99.add 206 [] z86
theorem o100:Okt Tryz.prog Tb100:=⟨o99.mix,zjz o99.nat zm7,z1dw o99.owes zfp strings_Repeat (zbi Tryz.laysRepeat Tryz.extraRepeat (by kernel_rfl))⟩
def znj:Env:=tab.env (fun i=>bif Nat.beq i 1 then [0,1] else []) (fun i=>bif Nat.beq i 1 then [0] else []) [] [.str,(.int .u8)]
def zj6(a:ByteArray)(b:Int):Option R:=loopR (ev znj (Tb100 R) kk (sub [1,0,0,0] (cd Tryz.f221))) [0,1] [0] k ⟨[tS a]::[tU b]::uS 21 [],nS 24 []⟩ J
def zdl(a:ByteArray):State:=⟨[tS a]::uS 22 [],nS 24 []⟩
def z11t:KX R:=(zl 0 (kSeq znj (Tb100 R) kk (sub [1,1] (cd Tryz.f221)) (kFin znj Tryz.f221.results.toList none K)))
theorem z1ge(a:ByteArray)(b:Int):zj6 R kk (k+1) J a b=
 zj8 a b (zj6 R kk k J) (fun a0=>J (.exit 0) (zdl a0)):=by kernel_rfl
theorem z16a(a:ByteArray):z11t R kk K (.exit 0) (zdl a)=
 zj9 a (fun a0=>K [tS a0] none):=by kernel_rfl
theorem z1bx{kk:Nat}(hF:kk=FUEL)(s_0:ByteArray)(c_1:Int):zj6 R kk k J s_0 c_1=(z79 k s_0 c_1).bind fun e=>J (.exit 0) (zdl e):=by
 induction k generalizing s_0 c_1 with
 |zero=>rfl
 |succ k ih=>
  rw[z1ge]
  simp only[z79,zj8,ih,nn_]
def Tb101:Funs:=Tb100.add 221 [.str,(.int .u8)] (pu2 .str (.int .u8) Q228 (fun _ r K=>K [tS r] none))
theorem o101:Okt Tryz.prog Tb101:=st2 znj Tryz.f221 (fun R kk x0 x1 K=>zj7 x0 x1 (zj6 R kk kk (z11t R kk K))) o100 (ek _ _ _ _) Tryz.func221 (by kernel_rfl) rfl (fun _ _ _ _ _ _ h=>h _ _) (fun _ _ _ _ _=>by kernel_rfl) fun R kk e x0 x1 K=>by
 simp only[Q228,zj7,zj9,z1bx (hF:=e),z16a,nn_,←e]
def zni:Env:=tab.env (fun i=>bif Nat.beq i 1 then [0,1] else []) (fun i=>bif Nat.beq i 1 then [0] else []) [] [.str,(.int .u8)]
def zj2(a:ByteArray)(b:Int):Option R:=loopR (ev zni (Tb101 R) kk (sub [1,0,0,0] (cd Tryz.f220))) [0,1] [0] k ⟨[tS a]::[tU b]::uS 15 [],nS 18 []⟩ J
def zdk(a:ByteArray):State:=⟨[tS a]::uS 16 [],nS 18 []⟩
def z11s:KX R:=(zl 0 (kSeq zni (Tb101 R) kk (sub [1,1] (cd Tryz.f220)) (kFin zni Tryz.f220.results.toList none K)))
theorem z1gd(a:ByteArray)(b:Int):zj2 R kk (k+1) J a b=
 zj4 a b (zj2 R kk k J) (fun a0=>J (.exit 0) (zdk a0)):=by kernel_rfl
theorem z169(a:ByteArray):z11s R kk K (.exit 0) (zdk a)=
 zj5 a (fun a0=>K [tS a0] none):=by kernel_rfl
theorem z1bw{kk:Nat}(hF:kk=FUEL)(s_0:ByteArray)(c_1:Int):zj2 R kk k J s_0 c_1=(z78 k s_0 c_1).bind fun e=>J (.exit 0) (zdk e):=by
 induction k generalizing s_0 c_1 with
 |zero=>rfl
 |succ k ih=>
  rw[z1gd]
  simp only[z78,zj4,ih,nn_]
def Tb102:Funs:=Tb101.add 220 [.str,(.int .u8)] (pu2 .str (.int .u8) Q227 (fun _ r K=>K [tS r] none))
theorem o102:Okt Tryz.prog Tb102:=st2 zni Tryz.f220 (fun R kk x0 x1 K=>zj3 x0 x1 (zj2 R kk kk (z11s R kk K))) o101 (ek _ _ _ _) Tryz.func220 (by kernel_rfl) rfl (fun _ _ _ _ _ _ h=>h _ _) (fun _ _ _ _ _=>by kernel_rfl) fun R kk e x0 x1 K=>by
 simp only[Q227,zj3,zj5,z1bw (hF:=e),z169,nn_,←e]
def z1je:Env:=e0 [.str,.str]
def Tb103:Funs:=Tb102.add 207 [.str,.str] (pu2 .str .str Q225 (fun _ r K=>K [tS r] none))
theorem o103:Okt Tryz.prog Tb103:=st2 z1je Tryz.f207 (fun R kk x0 x1 K=>zj1 x0 x1 (fun a0=>K [tS a0] none)) o102 (ek _ _ _ _) Tryz.func207 (by kernel_rfl) rfl (fun _ _ _ _ _ _ h=>h _ _) (fun _ _ _ _ _=>by kernel_rfl) fun R kk e x0 x1 K=>by
 simp only[Q225,zj1,nn_]
def Q30_E:Env:=e0 [.str,(.int .i64)]
def Tb104:Funs:=Tb103.add 171 [.str,(.int .i64)] (pu2 .str (.int .i64) Q30 (fun _ r K=>K [tS r.1,tB r.2] none))
theorem o104:Okt Tryz.prog Tb104:=st2 Q30_E Tryz.f171 (fun R kk x0 x1 K=>zny x0 x1 (fun a0 a1=>K [tS a0,tB a1] none)) o103 (ek _ _ _ _) Tryz.func171 (by kernel_rfl) rfl (fun _ _ _ _ _ _ h=>h _ _) (fun _ _ _ _ _=>by kernel_rfl) fun R kk e x0 x1 K=>by
 simp only[Q30,zny,nn_]
def Q20_E:Env:=tab.env (fun i=>bif Nat.beq i 2 then [1,8,9,10] else []) (fun i=>bif Nat.beq i 2 then [4,5] else []) [] [(.sl 116 (.pair .str (.pair .str .unit))),.str]
def zn9(a:ByteArray)(b:Zt14)(c d:Int):Option R:=loopR (ev Q20_E (Tb104 R) kk (sub [1,0,1,0,0] (cd Tryz.f172))) [1,8,9,10] [4,5] k ⟨uS 1 ([tS a]::uS 6 ([.dat (.sl 116 (.pair .str (.pair .str .unit))) b []]::[tI c]::[tI d]::uS 10 [])),nS 22 []⟩ J
def zl6(a:ByteArray)(b:Bool):State:=⟨uS 4 ([tS a]::[tB b]::uS 15 []),nS 22 []⟩
def zl7:State:=⟨uS 21 [],nS 22 []⟩
def zxk:KX R:=(zl 0 (kSeq Q20_E (Tb104 R) kk (sub [1,1] (cd Tryz.f172)) (kFin Q20_E Tryz.f172.results.toList none K)))
theorem z1j6(a:ByteArray)(b:Zt14)(c d:Int):zn9 R kk (k+1) J a b c d=
 zxl a b c d (fun a0 a1=>J .ret (zl6 a0 a1)) (zn9 R kk k J) (J (.exit 0) (zl7)):=by kernel_rfl
theorem z1bo(a:ByteArray)(b:Bool):zxk R kk K .ret (zl6 a b)=
 zxm a b (fun a0 a1=>K [tS a0,tB a1] none):=by kernel_rfl
theorem z1bp:zxk R kk K (.exit 0) (zl7)=
 zxn (fun a0 a1=>K [tS a0,tB a1] none):=by kernel_rfl
theorem z1g6{kk:Nat}(hF:kk=FUEL)(text_1:ByteArray)(t8:Zt14)(t9 t10:Int):zn9 R kk k J text_1 t8 t9 t10=(zd7 k text_1 t8 t9 t10).bind fun e=>(Sum.elim (fun(we:Zt5)=>J .ret (zl6 we.1 we.2)) (fun(we:Unit)=>J (.exit 0) (zl7)) e):=by
 induction k generalizing text_1 t8 t9 t10 with
 |zero=>rfl
 |succ k ih=>
  rw[z1j6]
  simp only[zd7,zxl,ih,nn_]
def Tb105:Funs:=Tb104.add 172 [(.sl 116 (.pair .str (.pair .str .unit))),.str] (pu2 (.sl 116 (.pair .str (.pair .str .unit))) .str Q20 (fun _ r K=>K [tS r.1,tB r.2] none))
theorem o105:Okt Tryz.prog Tb105:=st2 Q20_E Tryz.f172 (fun R kk x0 x1 K=>zna x0 x1 (zn9 R kk kk (zxk R kk K))) o104 (ek _ _ _ _) Tryz.func172 (by kernel_rfl) rfl (fun _ _ _ _ _ _ h=>h _ _) (fun _ _ _ _ _=>by kernel_rfl) fun R kk e x0 x1 K=>by
 simp only[Q20,zna,zxm,zxn,z1g6 (hF:=e),z1bo,z1bp,nn_,←e]
def z1j2:Env:=tab.env (fun _=>[]) (fun _=>[]) [6] [y12,y15,.str]
def Tb106:Funs:=Tb105.add 110 [y12,y15,.str] (pu3 y12 y15 .str Q205 (fun _ r K=>K [.dat (.pair (.int .i64) (.pair .str .unit)) r.1 [],tI r.2] none))
theorem o106:Okt Tryz.prog Tb106:=st3 z1j2 Tryz.f110 (fun R kk x0 x1 x2 K=>zib x0 x1 x2 (fun a0 a1=>K [.dat (.pair (.int .i64) (.pair .str .unit)) a0 [],tI a1] none)) o105 (ek _ _ _ _) Tryz.func110 (by kernel_rfl) rfl (fun _ _ _ _ _ _ h=>h _ _) (fun _ _ _ _ _ _=>by kernel_rfl) fun R kk e x0 x1 x2 K=>by
 simp only[Q205,zib,nn_]
def z7p:Env:={{tab.env (fun i=>bif Nat.beq i 12 then [4,6,7,8,9,16,59,60,61] else bif Nat.beq i 18 then [4,6,8,9,16,76,77,78] else []) (fun i=>bif Nat.beq i 12 then [4,6,7,8,9,16] else bif Nat.beq i 18 then [8,9,16] else []) [8,9] [y16,y15,y15,y5] with dr:=fun i=>bif Nat.beq i 12 then [17] else []} with ro:=true}
def zjq(a:Zt22)(b c:Int)(d:Zt24)(e:Zt18)(f g:Zt17)(h:Zt6)(i:Zt17):Option R:=loopR (ev z7p (Tb106 R) kk (sub [1,1,1,1,1,1,0,1,0,0] (cd Tryz.f40))) [4,6,7,8,9,16,59,60,61] [4,6,7,8,9,16] k ⟨uS 4 ([.ptr 5 y16 []]::uS 1 ([.ptr 7 y15 []]::[.ptr 8 y5 []]::[.ptr 9 y5 []]::[.ptr 10 (.pair (.int .i64) (.pair (.int .i64) .unit)) []]::uS 6 ([.ptr 17 y5 []]::uS 42 ([.dat (.sl 59 y12) a []]::[tI b]::[tI c]::uS 60 [])))),nS 5 ((some ⟨y16,d,[]⟩)::nS 1 ((some ⟨y15,e,[]⟩)::(some ⟨y5,f,[]⟩)::(some ⟨y5,g,[[1]]⟩)::(some ⟨(.pair (.int .i64) (.pair (.int .i64) .unit)),h,[]⟩)::nS 6 ((some ⟨y5,i,[]⟩)::nS 105 [])))⟩ J
def zdx(a:Zt24)(b:Zt18)(c d:Zt17)(e:Zt6)(f:Zt17):State:=⟨uS 4 ([.ptr 5 y16 []]::uS 1 ([.ptr 7 y15 []]::[.ptr 8 y5 []]::[.ptr 9 y5 []]::[.ptr 10 (.pair (.int .i64) (.pair (.int .i64) .unit)) []]::uS 6 ([.ptr 17 y5 []]::uS 105 []))),nS 5 ((some ⟨y16,a,[]⟩)::nS 1 ((some ⟨y15,b,[]⟩)::(some ⟨y5,c,[]⟩)::(some ⟨y5,d,[[1]]⟩)::(some ⟨(.pair (.int .i64) (.pair (.int .i64) .unit)),e,[]⟩)::nS 6 ((some ⟨y5,f,[]⟩)::nS 105 [])))⟩
def z11v:KX R:=(zl 0 (kSeq z7p (Tb106 R) kk (sub [1,1,1,1,1,1,1] (cd Tryz.f40)) (kFin z7p Tryz.f40.results.toList none K)))
def zjr(a:Zt12)(b c:Int)(d:Zt24)(e:Zt18)(f:Zt17)(g:Zt6)(h:Zt17):Option R:=loopR (ev z7p (Tb106 R) kk (sub [1,1,1,1,1,1,1,0,1,0,0] (cd Tryz.f40))) [4,6,8,9,16,76,77,78] [8,9,16] k ⟨uS 4 ([.ptr 5 y16 []]::uS 1 ([.ptr 7 y15 []]::uS 1 ([.ptr 9 y5 []]::[.ptr 10 (.pair (.int .i64) (.pair (.int .i64) .unit)) []]::uS 6 ([.ptr 17 y5 []]::uS 59 ([.dat (.sl 90 (.pair (.int .i64) (.pair .str .unit))) a []]::[tI b]::[tI c]::uS 43 []))))),nS 5 ((some ⟨y16,d,[]⟩)::nS 1 ((some ⟨y15,e,[]⟩)::nS 1 ((some ⟨y5,f,[[1]]⟩)::(some ⟨(.pair (.int .i64) (.pair (.int .i64) .unit)),g,[]⟩)::nS 6 ((some ⟨y5,h,[]⟩)::nS 105 []))))⟩ J
def zdy(a:Zt17)(b:Zt6)(c:Zt17):State:=⟨uS 8 ([.ptr 9 y5 []]::[.ptr 10 (.pair (.int .i64) (.pair (.int .i64) .unit)) []]::uS 6 ([.ptr 17 y5 []]::uS 105 [])),nS 9 ((some ⟨y5,a,[[1]]⟩)::(some ⟨(.pair (.int .i64) (.pair (.int .i64) .unit)),b,[]⟩)::nS 6 ((some ⟨y5,c,[]⟩)::nS 105 []))⟩
def zdz(a:Zt17)(b:Zt6)(c:Zt17):State:=⟨uS 8 ([.ptr 9 y5 []]::[.ptr 10 (.pair (.int .i64) (.pair (.int .i64) .unit)) []]::uS 6 ([.ptr 17 y5 []]::uS 105 [])),nS 9 ((some ⟨y5,a,[[1]]⟩)::(some ⟨(.pair (.int .i64) (.pair (.int .i64) .unit)),b,[]⟩)::nS 6 ((some ⟨y5,c,[]⟩)::nS 105 []))⟩
def ztk:KX R:=(zl 2 (kSeq z7p (Tb106 R) kk (sub [1,1,1,1,1,1,1,1] (cd Tryz.f40)) (kFin z7p Tryz.f40.results.toList none K)))
theorem z1gm(a:Zt22)(b c:Int)(d:Zt24)(e:Zt18)(f g:Zt17)(h:Zt6)(i:Zt17):zjq R kk (k+1) J a b c d e f g h i=
 ztl a b c d e f g h i (zjq R kk k J) (fun a0 a1 a2 a3 a4 a5=>J (.exit 0) (zdx a0 a1 a2 a3 a4 a5)):=by kernel_rfl
theorem z16l(a:Zt24)(b:Zt18)(c d:Zt17)(e:Zt6)(f:Zt17):z11v R kk K (.exit 0) (zdx a b c d e f)=
 zjt a b c d e f (zjr R kk kk (ztk R kk K)):=by kernel_rfl
theorem z1gn(a:Zt12)(b c:Int)(d:Zt24)(e:Zt18)(f:Zt17)(g:Zt6)(h:Zt17):zjr R kk (k+1) J a b c d e f g h=
 ztm a b c d e f g h (fun a0 a1 a2=>J .ret (zdy a0 a1 a2)) (zjr R kk k J) (fun a0 a1 a2=>J (.exit 2) (zdz a0 a1 a2)):=by kernel_rfl
theorem z16m(a:Zt17)(b:Zt6)(c:Zt17):ztk R kk K .ret (zdy a b c)=
 ztn a b c (fun a0 a1=>K [.dat y5 a0 [],.dat (.pair (.int .i64) (.pair (.int .i64) .unit)) a1 []] none):=by kernel_rfl
theorem z16n(a:Zt17)(b:Zt6)(c:Zt17):ztk R kk K (.exit 2) (zdz a b c)=
 zto a b c (fun a0 a1=>K [.dat y5 a0 [],.dat (.pair (.int .i64) (.pair (.int .i64) .unit)) a1 []] none):=by kernel_rfl
theorem z1c6{kk:Nat}(hF:kk=FUEL)(t59:Zt22)(t60 t61:Int)(bt4:Zt24)(bt6:Zt18)(bt7 bt8:Zt17)(bt9:Zt6)(bt16:Zt17):zjq R kk k J t59 t60 t61 bt4 bt6 bt7 bt8 bt9 bt16=(z9y k t59 t60 t61 bt4 bt6 bt7 bt8 bt9 bt16).bind fun e=>J (.exit 0) (zdx e.1 e.2.1 e.2.2.1 e.2.2.2.1 e.2.2.2.2.1 e.2.2.2.2.2):=by
 induction k generalizing t59 t60 t61 bt4 bt6 bt7 bt8 bt9 bt16 with
 |zero=>rfl
 |succ k ih=>
  rw[z1gm]
  simp only[z9y,ztl,ih,nn_]
theorem z1c7{kk:Nat}(hF:kk=FUEL)(t76:Zt12)(t77 t78:Int)(bt4:Zt24)(bt6:Zt18)(bt8:Zt17)(bt9:Zt6)(bt16:Zt17):zjr R kk k J t76 t77 t78 bt4 bt6 bt8 bt9 bt16=(z9z k t76 t77 t78 bt4 bt6 bt8 bt9 bt16).bind fun e=>(Sum.elim (fun(we:Zt23)=>J .ret (zdy we.1 we.2.1 we.2.2)) (fun(we:Zt23)=>J (.exit 2) (zdz we.1 we.2.1 we.2.2)) e):=by
 induction k generalizing t76 t77 t78 bt4 bt6 bt8 bt9 bt16 with
 |zero=>rfl
 |succ k ih=>
  rw[z1gn]
  simp only[z9z,ztm,ih,nn_]
def Tb107:Funs:=Tb106.add 40 [y16,y15,y15,y5] (pu4 y16 y15 y15 y5 Q242 (fun _ r K=>K [.dat y5 r.1 [],.dat (.pair (.int .i64) (.pair (.int .i64) .unit)) r.2 []] none))
theorem o107:Okt Tryz.prog Tb107:=st4 z7p Tryz.f40 (fun R kk x0 x1 x2 x3 K=>zjs x0 x1 x2 x3 (fun a0 a1=>K [.dat y5 a0 [],.dat (.pair (.int .i64) (.pair (.int .i64) .unit)) a1 []] none) (zjq R kk kk (z11v R kk K))) o106 (((ek _ _ _ _).dr _).ro _) Tryz.func40 (by kernel_rfl) rfl (fun _ _ _ _ _ _ h=>h _ _) (fun _ _ _ _ _ _ _=>by kernel_rfl) fun R kk e x0 x1 x2 x3 K=>by
 simp only[Q242,zjs,zjt,ztn,zto,z1c6 (hF:=e),z1c7 (hF:=e),z16l,z16m,z16n,nn_,←e]
def z1iz:Env:={e0 [y19,(.int .i64),.str] with fr:=fun i=>bif Nat.beq i 5 then [12,4] else []}
def Tb108:Funs:=Tb107.add 14 [y19,(.int .i64),.str] (pu3 y19 (.int .i64) .str Q197 (fun _ r K=>K [tI r.1,tS r.2] none))
theorem o108:Okt Tryz.prog Tb108:=st3 z1iz Tryz.f14 (fun R kk x0 x1 x2 K=>zi9 x0 x1 x2 (fun a0 a1=>K [tI a0,tS a1] none)) o107 ((ek _ _ _ _).fr _) Tryz.func14 (by kernel_rfl) rfl (fun _ _ _ _ _ _ h=>h _ _) (fun _ _ _ _ _ _=>by kernel_rfl) fun R kk e x0 x1 x2 K=>by
 simp only[Q197,zi9,nn_]
def Q61_E:Env:=e0 []
def Tb109:Funs:=Tb108.add 9 [] (pu0 Q61 (fun _ r K=>K [tB r] none))
theorem o109:Okt Tryz.prog Tb109:=st0 Q61_E Tryz.f9 (fun R kk K=>zy1 (fun a0=>K [tB a0] none)) o108 (ek _ _ _ _) Tryz.func9 (by kernel_rfl) rfl (fun _ _ _ _ _ _ h=>h _ _) (fun _ _ _=>by kernel_rfl) fun R kk e K=>by
 simp only[Q61,zy1,nn_]
def zmo:Env:=tab.env (fun i=>bif Nat.beq i 4 then [1,3] else []) (fun i=>bif Nat.beq i 4 then [2] else []) [] [y18]
def zgl(a:Int)(b:Zt26):Option R:=loopR (ev zmo (Tb109 R) kk (sub [1,1,0,1,0,0] (cd Tryz.f28))) [1,3] [2] k ⟨uS 1 ([.ptr 2 y18 []]::uS 1 ([tI a]::uS 32 [])),nS 2 ((some ⟨y18,b,[]⟩)::nS 34 [])⟩ J
def zc5(a:Bool):State:=⟨uS 2 ([tB a]::uS 33 []),nS 37 []⟩
def zc6:State:=⟨uS 36 [],nS 37 []⟩
def zqq:KX R:=(zl 0 (kSeq zmo (Tb109 R) kk (sub [1,1,1] (cd Tryz.f28)) (kFin zmo Tryz.f28.results.toList none K)))
theorem z1fh(a:Int)(b:Zt26):zgl R kk (k+1) J a b=
 zqr a b (fun a0=>J .ret (zc5 a0)) (zgl R kk k J) (J (.exit 0) (zc6)):=by kernel_rfl
theorem z14v(a:Bool):zqq R kk K .ret (zc5 a)=
 zqs a (fun a0=>K [tB a0] none):=by kernel_rfl
theorem z14w:zqq R kk K (.exit 0) (zc6)=
 zqt (fun a0=>K [tB a0] none):=by kernel_rfl
end
end Go.Proofs.YtkgpjibbdpikcaaGreatDoor

namespace Go.Proofs.YtkgpjibbdpikcaaGreatDoor
noncomputable section
open Go Go.Ref Groat
variable (R:Type) (kk k:Nat) (K:KF R) (J:KX R)
theorem z1az{kk:Nat}(hF:kk=FUEL)(t3:Int)(bt1:Zt26):zgl R kk k J t3 bt1=(z97 k t3 bt1).bind fun e=>(Sum.elim (fun(we:Bool)=>J .ret (zc5 we)) (fun(we:Unit)=>J (.exit 0) (zc6)) e):=by
 induction k generalizing t3 bt1 with
 |zero=>rfl
 |succ k ih=>
  rw[z1fh]
  simp only[z97,zqr,ih,nn_]
def Tb110:Funs:=Tb109.add 28 [y18] (pu1 y18 Q143 (fun _ r K=>K [tB r] none))
theorem o110:Okt Tryz.prog Tb110:=st1 zmo Tryz.f28 (fun R kk x0 K=>zgm x0 (fun a0=>K [tB a0] none) (zgl R kk kk (zqq R kk K))) o109 (ek _ _ _ _) Tryz.func28 (by kernel_rfl) rfl (fun _ _ _ _ _ _ h=>h _ _) (fun _ _ _ _=>by kernel_rfl) fun R kk e x0 K=>by
 simp only[Q143,zgm,zqs,zqt,z1az (hF:=e),z14v,z14w,nn_,←e]
def zmj:Env:=tab.env (fun i=>bif Nat.beq i 4 then [1,3] else []) (fun i=>bif Nat.beq i 4 then [2] else []) [] [y12]
def zg9(a:Int)(b:Zt20):Option R:=loopR (ev zmj (Tb110 R) kk (sub [1,1,0,1,0,0] (cd Tryz.f71))) [1,3] [2] k ⟨uS 1 ([.ptr 2 y12 []]::uS 1 ([tI a]::uS 35 [])),nS 2 ((some ⟨y12,b,[]⟩)::nS 37 [])⟩ J
def zbw(a:Bool):State:=⟨uS 2 ([tB a]::uS 36 []),nS 40 []⟩
def zbx:State:=⟨uS 39 [],nS 40 []⟩
def zqc:KX R:=(zl 0 (kSeq zmj (Tb110 R) kk (sub [1,1,1] (cd Tryz.f71)) (kFin zmj Tryz.f71.results.toList none K)))
theorem z1fc(a:Int)(b:Zt20):zg9 R kk (k+1) J a b=
 z93 a b (fun a0=>J .ret (zbw a0)) (zg9 R kk k J) (J (.exit 0) (zbx)):=by kernel_rfl
theorem z14m(a:Bool):zqc R kk K .ret (zbw a)=
 zqd a (fun a0=>K [tB a0] none):=by kernel_rfl
theorem z14n:zqc R kk K (.exit 0) (zbx)=
 zqe (fun a0=>K [tB a0] none):=by kernel_rfl
theorem z1au{kk:Nat}(hF:kk=FUEL)(t3:Int)(bt1:Zt20):zg9 R kk k J t3 bt1=(z4b k t3 bt1).bind fun e=>(Sum.elim (fun(we:Bool)=>J .ret (zbw we)) (fun(we:Unit)=>J (.exit 0) (zbx)) e):=by
 induction k generalizing t3 bt1 with
 |zero=>rfl
 |succ k ih=>
  rw[z1fc]
  simp only[z4b,z93,ih,nn_]
def Tb111:Funs:=Tb110.add 71 [y12] (pu1 y12 Q128 (fun _ r K=>K [tB r] none))
theorem o111:Okt Tryz.prog Tb111:=st1 zmj Tryz.f71 (fun R kk x0 K=>zga x0 (fun a0=>K [tB a0] none) (zg9 R kk kk (zqc R kk K))) o110 (ek _ _ _ _) Tryz.func71 (by kernel_rfl) rfl (fun _ _ _ _ _ _ h=>h _ _) (fun _ _ _ _=>by kernel_rfl) fun R kk e x0 K=>by
 simp only[Q128,zga,zqd,zqe,z1au (hF:=e),z14m,z14n,nn_,←e]
def z7l:Env:=tab.env (fun i=>bif Nat.beq i 4 then [1,3] else bif Nat.beq i 9 then [1,4] else []) (fun i=>bif Nat.beq i 4 then [1,2] else bif Nat.beq i 9 then [2] else []) [] [y16]
def zgd(a:Int)(b:Zt24):Option R:=loopR (ev z7l (Tb111 R) kk (sub [1,1,0,1,0,0] (cd Tryz.f29))) [1,3] [1,2] k ⟨uS 1 ([.ptr 2 y16 []]::uS 1 ([tI a]::uS 49 [])),nS 2 ((some ⟨y16,b,[]⟩)::nS 51 [])⟩ J
def zbz(a:Bool)(b:Zt24):State:=⟨uS 1 ([.ptr 2 y16 []]::[tB a]::uS 50 []),nS 2 ((some ⟨y16,b,[]⟩)::nS 51 [])⟩
def zc0(a:Zt24):State:=⟨uS 1 ([.ptr 2 y16 []]::uS 51 []),nS 2 ((some ⟨y16,a,[]⟩)::nS 51 [])⟩
def zqh:KX R:=(zl 0 (kSeq z7l (Tb111 R) kk (sub [1,1,1] (cd Tryz.f29)) (kFin z7l Tryz.f29.results.toList none K)))
def zge(a:Int)(b:Zt24):Option R:=loopR (ev z7l (Tb111 R) kk (sub [1,1,1,0,1,0,0] (cd Tryz.f29))) [1,4] [2] k ⟨uS 1 ([.ptr 2 y16 []]::uS 2 ([tI a]::uS 48 [])),nS 2 ((some ⟨y16,b,[]⟩)::nS 51 [])⟩ J
def zc1(a:Bool):State:=⟨uS 2 ([tB a]::uS 50 []),nS 54 []⟩
def zc2:State:=⟨uS 53 [],nS 54 []⟩
def zqi:KX R:=(zl 2 (kSeq z7l (Tb111 R) kk (sub [1,1,1,1] (cd Tryz.f29)) (kFin z7l Tryz.f29.results.toList none K)))
theorem z1fe(a:Int)(b:Zt24):zgd R kk (k+1) J a b=
 z96 a b (fun a0 a1=>J .ret (zbz a0 a1)) (zgd R kk k J) (fun a0=>J (.exit 0) (zc0 a0)):=by kernel_rfl
theorem z14p(a:Bool)(b:Zt24):zqh R kk K .ret (zbz a b)=
 zqj a b (fun a0=>K [tB a0] none):=by kernel_rfl
theorem z14q(a:Zt24):zqh R kk K (.exit 0) (zc0 a)=
 zgg a (zge R kk kk (zqi R kk K)):=by kernel_rfl
theorem z1ff(a:Int)(b:Zt24):zge R kk (k+1) J a b=
 zqk a b (fun a0=>J .ret (zc1 a0)) (zge R kk k J) (J (.exit 2) (zc2)):=by kernel_rfl
theorem z14r(a:Bool):zqi R kk K .ret (zc1 a)=
 zql a (fun a0=>K [tB a0] none):=by kernel_rfl
theorem z14s:zqi R kk K (.exit 2) (zc2)=
 zqm (fun a0=>K [tB a0] none):=by kernel_rfl
theorem z1aw{kk:Nat}(hF:kk=FUEL)(t3:Int)(bt1:Zt24):zgd R kk k J t3 bt1=(z4c k t3 bt1).bind fun e=>(Sum.elim (fun(we:(Bool×Zt24))=>J .ret (zbz we.1 we.2)) (fun(we:Zt24)=>J (.exit 0) (zc0 we)) e):=by
 induction k generalizing t3 bt1 with
 |zero=>rfl
 |succ k ih=>
  rw[z1fe]
  simp only[z4c,z96,ih,nn_]
theorem z1ax{kk:Nat}(hF:kk=FUEL)(t4:Int)(bt1:Zt24):zge R kk k J t4 bt1=(z95 k t4 bt1).bind fun e=>(Sum.elim (fun(we:Bool)=>J .ret (zc1 we)) (fun(we:Unit)=>J (.exit 2) (zc2)) e):=by
 induction k generalizing t4 bt1 with
 |zero=>rfl
 |succ k ih=>
  rw[z1ff]
  simp only[z95,zqk,ih,nn_]
def Tb112:Funs:=Tb111.add 29 [y16] (pu1 y16 Q131 (fun _ r K=>K [tB r] none))
theorem o112:Okt Tryz.prog Tb112:=st1 z7l Tryz.f29 (fun R kk x0 K=>zgf x0 (fun a0=>K [tB a0] none) (zgd R kk kk (zqh R kk K))) o111 (ek _ _ _ _) Tryz.func29 (by kernel_rfl) rfl (fun _ _ _ _ _ _ h=>h _ _) (fun _ _ _ _=>by kernel_rfl) fun R kk e x0 K=>by
 simp only[Q131,zgf,zqj,zgg,zql,zqm,z1aw (hF:=e),z1ax (hF:=e),z14p,z14q,z14r,z14s,nn_,←e]
def z1ie:Env:=e0 [y19]
def Tb113:Funs:=Tb112.add 10 [y19] (pu1 y19 Q148 (fun _ r K=>K [tB r] none))
theorem o113:Okt Tryz.prog Tb113:=st1 z1ie Tryz.f10 (fun R kk x0 K=>zgp x0 (fun a0=>K [tB a0] none)) o112 (ek _ _ _ _) Tryz.func10 (by kernel_rfl) rfl (fun _ _ _ _ _ _ h=>h _ _) (fun _ _ _ _=>by kernel_rfl) fun R kk e x0 K=>by
 simp only[Q148,zgp,nn_]
def z1ia:Env:=e0 [(.sl 116 (.pair .str (.pair .str .unit)))]
def Tb114:Funs:=Tb113.add 81 [(.sl 116 (.pair .str (.pair .str .unit)))] (pu1 (.sl 116 (.pair .str (.pair .str .unit))) Q121 (fun _ r K=>K [.dat (.sl 116 (.pair .str (.pair .str .unit))) r [[]]] none))
theorem o114:Okt Tryz.prog Tb114:=st1 z1ia Tryz.f81 (fun R kk x0 K=>zg1 x0 (fun a0=>K [.dat (.sl 116 (.pair .str (.pair .str .unit))) a0 [[]]] none)) o113 (ek _ _ _ _) Tryz.func81 (by kernel_rfl) rfl (fun _ _ _ _ _ _ h=>h _ _) (fun _ _ _ _=>by kernel_rfl) fun R kk e x0 K=>by
 simp only[Q121,zg1,nn_]
def z1ib:Env:=tab.env (fun _=>[]) (fun _=>[]) [2] [y12]
def Tb115:Funs:=Tb114.add 82 [y12] (pu1 y12 Q127 (fun _ r K=>K [.dat y12 r [[4]]] none))
theorem o115:Okt Tryz.prog Tb115:=st1 z1ib Tryz.f82 (fun R kk x0 K=>zg8 x0 (fun a0=>K [.dat y12 a0 [[4]]] none)) o114 (ek _ _ _ _) Tryz.func82 (by kernel_rfl) rfl (fun _ _ _ _ _ _ h=>h _ _) (fun _ _ _ _=>by kernel_rfl) fun R kk e x0 K=>by
 simp only[Q127,zg8,nn_]
def zml:Env:=tab.env (fun i=>bif Nat.beq i 3 then [1,2,3,4] else []) (fun i=>bif Nat.beq i 3 then [2,3] else []) [2] [y16]
def zgb(a:Int)(b c d:Zt24):Option R:=loopR (ev zml (Tb115 R) kk (sub [1,1,0,1,0,0] (cd Tryz.f32))) [1,2,3,4] [2,3] k ⟨uS 1 ([.ptr 2 y16 []]::[.ptr 3 y16 []]::[.ptr 4 y16 []]::[tI a]::uS 23 []),nS 2 ((some ⟨y16,b,[]⟩)::(some ⟨y16,c,[[0],[1]]⟩)::(some ⟨y16,d,[[0],[1]]⟩)::nS 24 [])⟩ J
def zby(a b:Zt24):State:=⟨uS 2 ([.ptr 3 y16 []]::[.ptr 4 y16 []]::uS 24 []),nS 3 ((some ⟨y16,a,[[0],[1]]⟩)::(some ⟨y16,b,[[0],[1]]⟩)::nS 24 [])⟩
def z11i:KX R:=(zl 0 (kSeq zml (Tb115 R) kk (sub [1,1,1] (cd Tryz.f32)) (kFin zml Tryz.f32.results.toList none K)))
theorem z1fd(a:Int)(b c d:Zt24):zgb R kk (k+1) J a b c d=
 zqf a b c d (zgb R kk k J) (fun a0 a1=>J (.exit 0) (zby a0 a1)):=by kernel_rfl
theorem z14o(a b:Zt24):z11i R kk K (.exit 0) (zby a b)=
 zqg a b (fun a0=>K [.dat y16 a0 [[0],[1]]] none):=by kernel_rfl
theorem z1av{kk:Nat}(hF:kk=FUEL)(t4:Int)(bt1 bt2 bt3:Zt24):zgb R kk k J t4 bt1 bt2 bt3=(z94 k t4 bt1 bt2 bt3).bind fun e=>J (.exit 0) (zby e.1 e.2):=by
 induction k generalizing t4 bt1 bt2 bt3 with
 |zero=>rfl
 |succ k ih=>
  rw[z1fd]
  simp only[z94,zqf,ih,nn_]
def Tb116:Funs:=Tb115.add 32 [y16] (pu1 y16 Q130 (fun _ r K=>K [.dat y16 r [[0],[1]]] none))
theorem o116:Okt Tryz.prog Tb116:=st1 zml Tryz.f32 (fun R kk x0 K=>zgc x0 (zgb R kk kk (z11i R kk K))) o115 (ek _ _ _ _) Tryz.func32 (by kernel_rfl) rfl (fun _ _ _ _ _ _ h=>h _ _) (fun _ _ _ _=>by kernel_rfl) fun R kk e x0 K=>by
 simp only[Q130,zgc,zqg,z1av (hF:=e),z14o,nn_,←e]
def z1i7:Env:=tab.env (fun _=>[]) (fun _=>[]) [2] [y15]
def Tb117:Funs:=Tb116.add 83 [y15] (pu1 y15 Q101 (fun _ r K=>K [.dat y15 r [[2]]] none))
theorem o117:Okt Tryz.prog Tb117:=st1 z1i7 Tryz.f83 (fun R kk x0 K=>zfu x0 (fun a0=>K [.dat y15 a0 [[2]]] none)) o116 (ek _ _ _ _) Tryz.func83 (by kernel_rfl) rfl (fun _ _ _ _ _ _ h=>h _ _) (fun _ _ _ _=>by kernel_rfl) fun R kk e x0 K=>by
 simp only[Q101,zfu,nn_]
def z1ic:Env:=tab.env (fun _=>[]) (fun _=>[]) [2] [y18]
def Tb118:Funs:=Tb117.add 33 [y18] (pu1 y18 Q142 (fun _ r K=>K [.dat y18 r [[3],[2],[0,2]]] none))
theorem o118:Okt Tryz.prog Tb118:=st1 z1ic Tryz.f33 (fun R kk x0 K=>zgk x0 (fun a0=>K [.dat y18 a0 [[3],[2],[0,2]]] none)) o117 (ek _ _ _ _) Tryz.func33 (by kernel_rfl) rfl (fun _ _ _ _ _ _ h=>h _ _) (fun _ _ _ _=>by kernel_rfl) fun R kk e x0 K=>by
 simp only[Q142,zgk,nn_]
def zmp:Env:={tab.env (fun i=>bif Nat.beq i 2 then [1,2,3] else []) (fun i=>bif Nat.beq i 2 then [1,2] else []) [2] [y19] with sh:=[20]}
def zgn(a:Int)(b c:Zt29):Option R:=loopR (ev zmp (Tb118 R) kk (sub [1,0,1,0,0] (cd Tryz.f12))) [1,2,3] [1,2] k ⟨uS 1 ([.ptr 2 y19 []]::[.ptr 3 y19 []]::[tI a]::uS 25 []),nS 2 ((some ⟨y19,b,[]⟩)::(some ⟨y19,c,[]⟩)::nS 26 [])⟩ J
def zc7(a b:Zt29):State:=⟨uS 1 ([.ptr 2 y19 []]::[.ptr 3 y19 []]::uS 26 []),nS 2 ((some ⟨y19,a,[]⟩)::(some ⟨y19,b,[]⟩)::nS 26 [])⟩
def z11j:KX R:=(zl 0 (kSeq zmp (Tb118 R) kk (sub [1,1] (cd Tryz.f12)) (kFin zmp Tryz.f12.results.toList none K)))
theorem z1fi(a:Int)(b c:Zt29):zgn R kk (k+1) J a b c=
 z71 a b c (zgn R kk k J) (fun a0 a1=>J (.exit 0) (zc7 a0 a1)):=by kernel_rfl
theorem z14x(a b:Zt29):z11j R kk K (.exit 0) (zc7 a b)=
 zqv a b (fun a0=>K [.dat y19 a0 []] none):=by kernel_rfl
theorem z1b0{kk:Nat}(hF:kk=FUEL)(t3:Int)(bt1 bt2:Zt29):zgn R kk k J t3 bt1 bt2=(z5s k t3 bt1 bt2).bind fun e=>J (.exit 0) (zc7 e.1 e.2):=by
 induction k generalizing t3 bt1 bt2 with
 |zero=>rfl
 |succ k ih=>
  rw[z1fi]
  simp only[z5s,z71,ih,nn_]
def Tb119:Funs:=Tb118.add 12 [y19] (pu1 y19 Q147 (fun _ r K=>K [.dat y19 r []] none))
theorem o119:Okt Tryz.prog Tb119:=st1 zmp Tryz.f12 (fun R kk x0 K=>zgo x0 (zgn R kk kk (z11j R kk K))) o118 ((ek _ _ _ _).sh _) Tryz.func12 (by kernel_rfl) rfl (fun _ _ _ _ _ _ h=>h _ _) (fun _ _ _ _=>by kernel_rfl) fun R kk e x0 K=>by
 simp only[Q147,zgo,zqv,z1b0 (hF:=e),z14x,nn_,←e]
def z1iy:Env:=tab.env (fun _=>[]) (fun _=>[]) [2] [y19]
def Tb120:Funs:=Tb119.add 21 [y19] (pu1 y19 Q196 (fun _ r K=>K [.dat y19 r []] none))
theorem o120:Okt Tryz.prog Tb120:=st1 z1iy Tryz.f21 (fun R kk x0 K=>zsf x0 (fun a0=>K [.dat y19 a0 []] none)) o119 (ek _ _ _ _) Tryz.func21 (by kernel_rfl) rfl (fun _ _ _ _ _ _ h=>h _ _) (fun _ _ _ _=>by kernel_rfl) fun R kk e x0 K=>by
 simp only[Q196,zsf,nn_]
def zmd:Env:=tab.env (fun i=>bif Nat.beq i 4 then [2,3,5] else []) (fun i=>bif Nat.beq i 4 then [4] else []) [] [y15,y15]
def zfv(a:Int)(b c:Zt18):Option R:=loopR (ev zmd (Tb120 R) kk (sub [1,1,0,1,0,0] (cd Tryz.f51))) [2,3,5] [4] k ⟨uS 2 ([.ptr 3 y15 []]::[.ptr 4 y15 []]::uS 1 ([tI a]::uS 39 [])),nS 3 ((some ⟨y15,b,[]⟩)::(some ⟨y15,c,[]⟩)::nS 41 [])⟩ J
def zbq(a:Bool):State:=⟨uS 4 ([tB a]::uS 40 []),nS 46 []⟩
def zbr:State:=⟨uS 45 [],nS 46 []⟩
def zq0:KX R:=(zl 0 (kSeq zmd (Tb120 R) kk (sub [1,1,1] (cd Tryz.f51)) (kFin zmd Tryz.f51.results.toList none K)))
theorem z1f8(a:Int)(b c:Zt18):zfv R kk (k+1) J a b c=
 zq1 a b c (fun a0=>J .ret (zbq a0)) (zfv R kk k J) (J (.exit 0) (zbr)):=by kernel_rfl
theorem z14g(a:Bool):zq0 R kk K .ret (zbq a)=
 zfx a (fun a0=>K [tB a0] none):=by kernel_rfl
theorem z14h:zq0 R kk K (.exit 0) (zbr)=
 zfy (fun a0=>K [tB a0] none):=by kernel_rfl
theorem z1aq{kk:Nat}(hF:kk=FUEL)(t5:Int)(bt2 bt3:Zt18):zfv R kk k J t5 bt2 bt3=(z91 k t5 bt2 bt3).bind fun e=>(Sum.elim (fun(we:Bool)=>J .ret (zbq we)) (fun(we:Unit)=>J (.exit 0) (zbr)) e):=by
 induction k generalizing t5 bt2 bt3 with
 |zero=>rfl
 |succ k ih=>
  rw[z1f8]
  simp only[z91,zq1,ih,nn_]
def Tb121:Funs:=Tb120.add 51 [y15,y15] (pu2 y15 y15 Q104 (fun _ r K=>K [tB r] none))
theorem o121:Okt Tryz.prog Tb121:=st2 zmd Tryz.f51 (fun R kk x0 x1 K=>zfw x0 x1 (fun a0=>K [tB a0] none) (zfv R kk kk (zq0 R kk K))) o120 (ek _ _ _ _) Tryz.func51 (by kernel_rfl) rfl (fun _ _ _ _ _ _ h=>h _ _) (fun _ _ _ _ _=>by kernel_rfl) fun R kk e x0 x1 K=>by
 simp only[Q104,zfw,zfx,zfy,z1aq (hF:=e),z14g,z14h,nn_,←e]
def zmh:Env:=tab.env (fun i=>bif Nat.beq i 4 then [0,1,5] else []) (fun i=>bif Nat.beq i 4 then [4] else []) [] [(.sl 116 (.pair .str (.pair .str .unit))),(.sl 116 (.pair .str (.pair .str .unit)))]
def zg2(a b:Zt14)(c:Int):Option R:=loopR (ev zmh (Tb121 R) kk (sub [1,1,0,1,0,0] (cd Tryz.f125))) [0,1,5] [4] k ⟨[.dat (.sl 116 (.pair .str (.pair .str .unit))) a []]::[.dat (.sl 116 (.pair .str (.pair .str .unit))) b []]::uS 3 ([tI c]::uS 20 []),nS 27 []⟩ J
def zbt(a:Bool):State:=⟨uS 4 ([tB a]::uS 21 []),nS 27 []⟩
def zbu:State:=⟨uS 26 [],nS 27 []⟩
def zq7:KX R:=(zl 0 (kSeq zmh (Tb121 R) kk (sub [1,1,1] (cd Tryz.f125)) (kFin zmh Tryz.f125.results.toList none K)))
theorem z1fa(a b:Zt14)(c:Int):zg2 R kk (k+1) J a b c=
 zq8 a b c (fun a0=>J .ret (zbt a0)) (zg2 R kk k J) (J (.exit 0) (zbu)):=by kernel_rfl
theorem z14j(a:Bool):zq7 R kk K .ret (zbt a)=
 zg4 a (fun a0=>K [tB a0] none):=by kernel_rfl
theorem z14k:zq7 R kk K (.exit 0) (zbu)=
 zg5 (fun a0=>K [tB a0] none):=by kernel_rfl
theorem z1as{kk:Nat}(hF:kk=FUEL)(a_0 b_1:Zt14)(t5:Int):zg2 R kk k J a_0 b_1 t5=(z92 k a_0 b_1 t5).bind fun e=>(Sum.elim (fun(we:Bool)=>J .ret (zbt we)) (fun(we:Unit)=>J (.exit 0) (zbu)) e):=by
 induction k generalizing a_0 b_1 t5 with
 |zero=>rfl
 |succ k ih=>
  rw[z1fa]
  simp only[z92,zq8,ih,nn_]
def Tb122:Funs:=Tb121.add 125 [(.sl 116 (.pair .str (.pair .str .unit))),(.sl 116 (.pair .str (.pair .str .unit)))] (pu2 (.sl 116 (.pair .str (.pair .str .unit))) (.sl 116 (.pair .str (.pair .str .unit))) Q122 (fun _ r K=>K [tB r] none))
theorem o122:Okt Tryz.prog Tb122:=st2 zmh Tryz.f125 (fun R kk x0 x1 K=>zg3 x0 x1 (fun a0=>K [tB a0] none) (zg2 R kk kk (zq7 R kk K))) o121 (ek _ _ _ _) Tryz.func125 (by kernel_rfl) rfl (fun _ _ _ _ _ _ h=>h _ _) (fun _ _ _ _ _=>by kernel_rfl) fun R kk e x0 x1 K=>by
 simp only[Q122,zg3,zg4,zg5,z1as (hF:=e),z14j,z14k,nn_,←e]
def zmm:Env:=tab.env (fun i=>bif Nat.beq i 4 then [2,3,5] else []) (fun i=>bif Nat.beq i 4 then [4] else []) [] [y16,y16]
def zgh(a:Int)(b c:Zt24):Option R:=loopR (ev zmm (Tb122 R) kk (sub [1,1,0,1,0,0] (cd Tryz.f52))) [2,3,5] [4] k ⟨uS 2 ([.ptr 3 y16 []]::[.ptr 4 y16 []]::uS 1 ([tI a]::uS 68 [])),nS 3 ((some ⟨y16,b,[]⟩)::(some ⟨y16,c,[]⟩)::nS 70 [])⟩ J
def zc3(a:Bool):State:=⟨uS 4 ([tB a]::uS 69 []),nS 75 []⟩
def zc4:State:=⟨uS 74 [],nS 75 []⟩
def zqn:KX R:=(zl 0 (kSeq zmm (Tb122 R) kk (sub [1,1,1] (cd Tryz.f52)) (kFin zmm Tryz.f52.results.toList none K)))
theorem z1fg(a:Int)(b c:Zt24):zgh R kk (k+1) J a b c=
 zgj a b c (fun a0=>J .ret (zc3 a0)) (zgh R kk k J) (J (.exit 0) (zc4)):=by kernel_rfl
theorem z14t(a:Bool):zqn R kk K .ret (zc3 a)=
 zqo a (fun a0=>K [tB a0] none):=by kernel_rfl
theorem z14u:zqn R kk K (.exit 0) (zc4)=
 zqp (fun a0=>K [tB a0] none):=by kernel_rfl
theorem z1ay{kk:Nat}(hF:kk=FUEL)(t5:Int)(bt2 bt3:Zt24):zgh R kk k J t5 bt2 bt3=(z5r k t5 bt2 bt3).bind fun e=>(Sum.elim (fun(we:Bool)=>J .ret (zc3 we)) (fun(we:Unit)=>J (.exit 0) (zc4)) e):=by
 induction k generalizing t5 bt2 bt3 with
 |zero=>rfl
 |succ k ih=>
  rw[z1fg]
  simp only[z5r,zgj,ih,nn_]
def Tb123:Funs:=Tb122.add 52 [y16,y16] (pu2 y16 y16 Q137 (fun _ r K=>K [tB r] none))
theorem o123:Okt Tryz.prog Tb123:=st2 zmm Tryz.f52 (fun R kk x0 x1 K=>zgi x0 x1 (fun a0=>K [tB a0] none) (zgh R kk kk (zqn R kk K))) o122 (ek _ _ _ _) Tryz.func52 (by kernel_rfl) rfl (fun _ _ _ _ _ _ h=>h _ _) (fun _ _ _ _ _=>by kernel_rfl) fun R kk e x0 x1 K=>by
 simp only[Q137,zgi,zqo,zqp,z1ay (hF:=e),z14t,z14u,nn_,←e]
def z3z:Env:=tab.env (fun i=>bif Nat.beq i 4 then [2,3,5] else bif Nat.beq i 11 then [2,3,5,6,7,8] else bif Nat.beq i 16 then [2,3,5,6,7,9] else []) (fun i=>bif Nat.beq i 4 then [4] else bif Nat.beq i 11 then [2,3,4,5,6,7] else bif Nat.beq i 16 then [2,3,4,5] else []) [] [y19,y19]
def zgq(a:Int)(b c:Zt29):Option R:=loopR (ev z3z (Tb123 R) kk (sub [1,1,0,1,0,0] (cd Tryz.f20))) [2,3,5] [4] k ⟨uS 2 ([.ptr 3 y19 []]::[.ptr 4 y19 []]::uS 1 ([tI a]::uS 89 [])),nS 3 ((some ⟨y19,b,[]⟩)::(some ⟨y19,c,[]⟩)::nS 91 [])⟩ J
def z6c(a:Bool):State:=⟨uS 4 ([tB a]::uS 90 []),nS 96 []⟩
def zc9:State:=⟨uS 95 [],nS 96 []⟩
def zqw:KX R:=(zl 0 (kSeq z3z (Tb123 R) kk (sub [1,1,1] (cd Tryz.f20)) (kFin z3z Tryz.f20.results.toList none K)))
def zgr(a b:Int)(c d:Zt29)(e f:Zt26):Option R:=loopR (ev z3z (Tb123 R) kk (sub [1,1,0,1,0,0,1,0,0,1,1,1,0,1,0,0] (cd Tryz.f20))) [2,3,5,6,7,8] [2,3,4,5,6,7] k ⟨uS 2 ([.ptr 3 y19 []]::[.ptr 4 y19 []]::uS 1 ([tI a]::[.ptr 7 y18 []]::[.ptr 8 y18 []]::[tI b]::uS 86 [])),nS 3 ((some ⟨y19,c,[]⟩)::(some ⟨y19,d,[]⟩)::nS 2 ((some ⟨y18,e,[]⟩)::(some ⟨y18,f,[]⟩)::nS 87 []))⟩ J
def zca(a:Bool)(b:Int)(c d:Zt29)(e f:Zt26):State:=⟨uS 2 ([.ptr 3 y19 []]::[.ptr 4 y19 []]::[tB a]::[tI b]::[.ptr 7 y18 []]::[.ptr 8 y18 []]::uS 87 []),nS 3 ((some ⟨y19,c,[]⟩)::(some ⟨y19,d,[]⟩)::nS 2 ((some ⟨y18,e,[]⟩)::(some ⟨y18,f,[]⟩)::nS 87 []))⟩
def zcb(a:Int)(b c:Zt29)(d e:Zt26):State:=⟨uS 2 ([.ptr 3 y19 []]::[.ptr 4 y19 []]::uS 1 ([tI a]::[.ptr 7 y18 []]::[.ptr 8 y18 []]::uS 87 [])),nS 3 ((some ⟨y19,b,[]⟩)::(some ⟨y19,c,[]⟩)::nS 2 ((some ⟨y18,d,[]⟩)::(some ⟨y18,e,[]⟩)::nS 87 []))⟩
def zqx:KX R:=(zl 2 (kSeq z3z (Tb123 R) kk (sub [1,1,0,1,0,0,1,0,0,1,1,1,1] (cd Tryz.f20)) (zl 1 (kSeq z3z (Tb123 R) kk (sub [1,1,0,1,0,0,1,1] (cd Tryz.f20)) (kLoop (ev z3z (Tb123 R) kk (sub [1,1,0,1,0,0] (cd Tryz.f20))) [2,3,5] [4] k J)))))
def zgs(a b:Int)(c d:Zt29)(e f:Zt26):Option R:=loopR (ev z3z (Tb123 R) kk (sub [1,1,0,1,0,0,1,0,0,1,1,1,1,1,0,0] (cd Tryz.f20))) [2,3,5,6,7,9] [2,3,4,5] k ⟨uS 2 ([.ptr 3 y19 []]::[.ptr 4 y19 []]::uS 1 ([tI a]::[.ptr 7 y18 []]::[.ptr 8 y18 []]::uS 1 ([tI b]::uS 85 []))),nS 3 ((some ⟨y19,c,[]⟩)::(some ⟨y19,d,[]⟩)::nS 2 ((some ⟨y18,e,[]⟩)::(some ⟨y18,f,[]⟩)::nS 87 []))⟩ J
def zcc(a:Bool)(b:Int)(c d:Zt29):State:=⟨uS 2 ([.ptr 3 y19 []]::[.ptr 4 y19 []]::[tB a]::[tI b]::uS 89 []),nS 3 ((some ⟨y19,c,[]⟩)::(some ⟨y19,d,[]⟩)::nS 91 [])⟩
def zcd(a:Int)(b c:Zt29):State:=⟨uS 2 ([.ptr 3 y19 []]::[.ptr 4 y19 []]::uS 1 ([tI a]::uS 89 [])),nS 3 ((some ⟨y19,b,[]⟩)::(some ⟨y19,c,[]⟩)::nS 91 [])⟩
def zqy:KX R:=(zl 4 (zl 1 (kSeq z3z (Tb123 R) kk (sub [1,1,0,1,0,0,1,1] (cd Tryz.f20)) (kLoop (ev z3z (Tb123 R) kk (sub [1,1,0,1,0,0] (cd Tryz.f20))) [2,3,5] [4] k J))))
theorem z1fj(a:Int)(b c:Zt29):zgq R kk (k+1) J a b c=
 z98 a b c (fun a0=>J .ret (z6c a0)) (zgr R kk kk (zqx R kk k J)) (J (.exit 0) (zc9)):=by kernel_rfl
theorem z14y(a:Bool):zqw R kk K .ret (z6c a)=
 zqz a (fun a0=>K [tB a0] none):=by kernel_rfl
theorem z14z:zqw R kk K (.exit 0) (zc9)=
 zr0 (fun a0=>K [tB a0] none):=by kernel_rfl
theorem z1fk(a b:Int)(c d:Zt29)(e f:Zt26):zgr R kk (k+1) J a b c d e f=
 z99 a b c d e f (fun a0 a1 a2 a3 a4 a5=>J .ret (zca a0 a1 a2 a3 a4 a5)) (zgr R kk k J) (fun a0 a1 a2 a3 a4=>J (.exit 2) (zcb a0 a1 a2 a3 a4)):=by kernel_rfl
theorem z150(a:Bool)(b:Int)(c d:Zt29)(e f:Zt26):zqx R kk k J .ret (zca a b c d e f)=
 zr1 a b c d e f (fun a0=>J .ret (z6c a0)):=by kernel_rfl
theorem z151(a:Int)(b c:Zt29)(d e:Zt26):zqx R kk k J (.exit 2) (zcb a b c d e)=
 zgu a b c d e (zgs R kk kk (zqy R kk k J)):=by kernel_rfl
theorem z1fl(a b:Int)(c d:Zt29)(e f:Zt26):zgs R kk (k+1) J a b c d e f=
 z9a a b c d e f (fun a0 a1 a2 a3=>J .ret (zcc a0 a1 a2 a3)) (zgs R kk k J) (fun a0 a1 a2=>J (.exit 4) (zcd a0 a1 a2)):=by kernel_rfl
theorem z152(a:Bool)(b:Int)(c d:Zt29):zqy R kk k J .ret (zcc a b c d)=
 zr2 a b c d (fun a0=>J .ret (z6c a0)):=by kernel_rfl
theorem z153(a:Int)(b c:Zt29):zqy R kk k J (.exit 4) (zcd a b c)=
 zgv a b c (zgq R kk k J):=by kernel_rfl
theorem z1b2{kk:Nat}(hF:kk=FUEL)(t5 t8:Int)(bt2 bt3:Zt29)(bt6 bt7:Zt26):zgr R kk k J t5 t8 bt2 bt3 bt6 bt7=(z5t k t5 t8 bt2 bt3 bt6 bt7).bind fun e=>(Sum.elim (fun(we:(Bool×Int×Zt29×Zt29×Zt26×Zt26))=>J .ret (zca we.1 we.2.1 we.2.2.1 we.2.2.2.1 we.2.2.2.2.1 we.2.2.2.2.2)) (fun(we:(Int×Zt29×Zt29×Zt26×Zt26))=>J (.exit 2) (zcb we.1 we.2.1 we.2.2.1 we.2.2.2.1 we.2.2.2.2)) e):=by
 induction k generalizing t5 t8 bt2 bt3 bt6 bt7 with
 |zero=>rfl
 |succ k ih=>
  rw[z1fk]
  simp only[z5t,z99,ih,nn_]
theorem z1b3{kk:Nat}(hF:kk=FUEL)(t5 t9:Int)(bt2 bt3:Zt29)(bt6 bt7:Zt26):zgs R kk k J t5 t9 bt2 bt3 bt6 bt7=(z5u k t5 t9 bt2 bt3 bt6 bt7).bind fun e=>(Sum.elim (fun(we:(Bool×Int×Zt29×Zt29))=>J .ret (zcc we.1 we.2.1 we.2.2.1 we.2.2.2)) (fun(we:(Int×Zt29×Zt29))=>J (.exit 4) (zcd we.1 we.2.1 we.2.2)) e):=by
 induction k generalizing t5 t9 bt2 bt3 bt6 bt7 with
 |zero=>rfl
 |succ k ih=>
  rw[z1fl]
  simp only[z5u,z9a,ih,nn_]
theorem z1b1{kk:Nat}(hF:kk=FUEL)(t5:Int)(bt2 bt3:Zt29):zgq R kk k J t5 bt2 bt3=(z50 k t5 bt2 bt3).bind fun e=>(Sum.elim (fun(we:Bool)=>J .ret (z6c we)) (fun(we:Unit)=>J (.exit 0) (zc9)) e):=by
 induction k generalizing t5 bt2 bt3 with
 |zero=>rfl
 |succ k ih=>
  rw[z1fj]
  simp only[z50,z98,zr1,zgu,zr2,zgv,ih,z1b2 (hF:=hF),z1b3 (hF:=hF),z150,z151,z152,z153,nn_,←hF]
def Tb124:Funs:=Tb123.add 20 [y19,y19] (pu2 y19 y19 Q152 (fun _ r K=>K [tB r] none))
theorem o124:Okt Tryz.prog Tb124:=st2 z3z Tryz.f20 (fun R kk x0 x1 K=>zgt x0 x1 (fun a0=>K [tB a0] none) (zgq R kk kk (zqw R kk K))) o123 (ek _ _ _ _) Tryz.func20 (by kernel_rfl) rfl (fun _ _ _ _ _ _ h=>h _ _) (fun _ _ _ _ _=>by kernel_rfl) fun R kk e x0 x1 K=>by
 simp only[Q152,zgt,zqz,zr0,z1b1 (hF:=e),z14y,z14z,nn_,←e]
def Q23_E:Env:=tab.env (fun i=>bif Nat.beq i 3 then [3,9,10,11] else []) (fun i=>bif Nat.beq i 3 then [3] else []) [] [(.sl 116 (.pair .str (.pair .str .unit)))]
def zno(a b:Zt14)(c d:Int):Option R:=loopR (ev Q23_E (Tb124 R) kk (sub [1,1,0,1,0,0] (cd Tryz.f55))) [3,9,10,11] [3] k ⟨uS 3 ([.dat (.sl 116 (.pair .str (.pair .str .unit))) a [[]]]::uS 5 ([.dat (.sl 116 (.pair .str (.pair .str .unit))) b []]::[tI c]::[tI d]::uS 13 [])),nS 26 []⟩ J
def zla(a:Zt14):State:=⟨uS 3 ([.dat (.sl 116 (.pair .str (.pair .str .unit))) a [[]]]::uS 21 []),nS 26 []⟩
def z16e:KX R:=(zl 0 (kSeq Q23_E (Tb124 R) kk (sub [1,1,1] (cd Tryz.f55)) (kFin Q23_E Tryz.f55.results.toList none K)))
theorem z1jk(a b:Zt14)(c d:Int):zno R kk (k+1) J a b c d=
 zxt a b c d (zno R kk k J) (fun a0=>J (.exit 0) (zla a0)):=by kernel_rfl
theorem z1c2(a:Zt14):z16e R kk K (.exit 0) (zla a)=
 zxu a (fun a0=>K [.dat (.sl 116 (.pair .str (.pair .str .unit))) a0 []] none):=by kernel_rfl
theorem z1gi{kk:Nat}(hF:kk=FUEL)(t3 t9:Zt14)(t10 t11:Int):zno R kk k J t3 t9 t10 t11=(zdq k t3 t9 t10 t11).bind fun e=>J (.exit 0) (zla e):=by
 induction k generalizing t3 t9 t10 t11 with
 |zero=>rfl
 |succ k ih=>
  rw[z1jk]
  simp only[zdq,zxt,ih,nn_]
def Tb125:Funs:=Tb124.add 55 [(.sl 116 (.pair .str (.pair .str .unit)))] (pu1 (.sl 116 (.pair .str (.pair .str .unit))) Q23 (fun _ r K=>K [.dat (.sl 116 (.pair .str (.pair .str .unit))) r []] none))
theorem o125:Okt Tryz.prog Tb125:=st1 Q23_E Tryz.f55 (fun R kk x0 K=>znp x0 (zno R kk kk (z16e R kk K))) o124 (ek _ _ _ _) Tryz.func55 (by kernel_rfl) rfl (fun _ _ _ _ _ _ h=>h _ _) (fun _ _ _ _=>by kernel_rfl) fun R kk e x0 K=>by
 simp only[Q23,znp,zxu,z1gi (hF:=e),z1c2,nn_,←e]
def Q21_E:Env:=e0 [(.sl 116 (.pair .str (.pair .str .unit)))]
def Tb126:Funs:=Tb125.add 53 [(.sl 116 (.pair .str (.pair .str .unit)))] (pu1 (.sl 116 (.pair .str (.pair .str .unit))) Q21 (fun _ r K=>K [tB r] none))
theorem o126:Okt Tryz.prog Tb126:=st1 Q21_E Tryz.f53 (fun R kk x0 K=>zng x0 (fun a0=>K [tB a0] none)) o125 (ek _ _ _ _) Tryz.func53 (by kernel_rfl) rfl (fun _ _ _ _ _ _ h=>h _ _) (fun _ _ _ _=>by kernel_rfl) fun R kk e x0 K=>by
 simp only[Q21,zng,nn_]
def z1ii:Env:=e0 [y12,y15,y15]
def Tb127:Funs:=Tb126.add 54 [y12,y15,y15] (pu3 y12 y15 y15 Q165 (fun _ r K=>K [tB r] none))
theorem o127:Okt Tryz.prog Tb127:=st3 z1ii Tryz.f54 (fun R kk x0 x1 x2 K=>zh9 x0 x1 x2 (fun a0=>K [tB a0] none)) o126 (ek _ _ _ _) Tryz.func54 (by kernel_rfl) rfl (fun _ _ _ _ _ _ h=>h _ _) (fun _ _ _ _ _ _=>by kernel_rfl) fun R kk e x0 x1 x2 K=>by
 simp only[Q165,zh9,nn_]
def zmw:Env:=tab.env (fun i=>bif Nat.beq i 5 then [4,5,29,30,31] else []) (fun i=>bif Nat.beq i 5 then [6] else []) [] [y16,y15,y15]
def zh5(a:Zt22)(b c:Int)(d e:Zt18):Option R:=loopR (ev zmw (Tb127 R) kk (sub [1,1,0,1,0,0] (cd Tryz.f22))) [4,5,29,30,31] [6] k ⟨uS 4 ([.ptr 5 y15 []]::[.ptr 6 y15 []]::uS 23 ([.dat (.sl 59 y12) a []]::[tI b]::[tI c]::uS 9 [])),nS 5 ((some ⟨y15,d,[]⟩)::(some ⟨y15,e,[]⟩)::nS 35 [])⟩ J
def zck(a:Bool):State:=⟨uS 6 ([tB a]::uS 34 []),nS 42 []⟩
def zcl:State:=⟨uS 41 [],nS 42 []⟩
def zre:KX R:=(zl 0 (kSeq zmw (Tb127 R) kk (sub [1,1,1] (cd Tryz.f22)) (kFin zmw Tryz.f22.results.toList none K)))
theorem z1fr(a:Zt22)(b c:Int)(d e:Zt18):zh5 R kk (k+1) J a b c d e=
 zrf a b c d e (fun a0=>J .ret (zck a0)) (zh5 R kk k J) (J (.exit 0) (zcl)):=by kernel_rfl
theorem z159(a:Bool):zre R kk K .ret (zck a)=
 zrg a (fun a0=>K [tB a0] none):=by kernel_rfl
theorem z15a:zre R kk K (.exit 0) (zcl)=
 zrh (fun a0=>K [tB a0] none):=by kernel_rfl
theorem z1ba{kk:Nat}(hF:kk=FUEL)(t29:Zt22)(t30 t31:Int)(bt4 bt5:Zt18):zh5 R kk k J t29 t30 t31 bt4 bt5=(z9d k t29 t30 t31 bt4 bt5).bind fun e=>(Sum.elim (fun(we:Bool)=>J .ret (zck we)) (fun(we:Unit)=>J (.exit 0) (zcl)) e):=by
 induction k generalizing t29 t30 t31 bt4 bt5 with
 |zero=>rfl
 |succ k ih=>
  rw[z1fr]
  simp only[z9d,zrf,ih,nn_]
def Tb128:Funs:=Tb127.add 22 [y16,y15,y15] (pu3 y16 y15 y15 Q163 (fun _ r K=>K [tB r] none))
theorem o128:Okt Tryz.prog Tb128:=st3 zmw Tryz.f22 (fun R kk x0 x1 x2 K=>zh6 x0 x1 x2 (fun a0=>K [tB a0] none) (zh5 R kk kk (zre R kk K))) o127 (ek _ _ _ _) Tryz.func22 (by kernel_rfl) rfl (fun _ _ _ _ _ _ h=>h _ _) (fun _ _ _ _ _ _=>by kernel_rfl) fun R kk e x0 x1 x2 K=>by
 simp only[Q163,zh6,zrg,zrh,z1ba (hF:=e),z159,z15a,nn_,←e]
def zmx:Env:=tab.env (fun i=>bif Nat.beq i 3 then [2,3,11,12,13] else []) (fun i=>bif Nat.beq i 3 then [2,3] else []) [2] [y16]
def zh7(a:Zt22)(b c:Int)(d e:Zt24):Option R:=loopR (ev zmx (Tb128 R) kk (sub [1,1,0,1,0,0] (cd Tryz.f23))) [2,3,11,12,13] [2,3] k ⟨uS 2 ([.ptr 3 y16 []]::[.ptr 4 y16 []]::uS 7 ([.dat (.sl 59 y12) a []]::[tI b]::[tI c]::uS 22 [])),nS 3 ((some ⟨y16,d,[[0],[1]]⟩)::(some ⟨y16,e,[[1]]⟩)::nS 32 [])⟩ J
def zcm(a b:Zt24):State:=⟨uS 2 ([.ptr 3 y16 []]::[.ptr 4 y16 []]::uS 32 []),nS 3 ((some ⟨y16,a,[[0],[1]]⟩)::(some ⟨y16,b,[[1]]⟩)::nS 32 [])⟩
def z11n:KX R:=(zl 0 (kSeq zmx (Tb128 R) kk (sub [1,1,1] (cd Tryz.f23)) (kFin zmx Tryz.f23.results.toList none K)))
theorem z1fs(a:Zt22)(b c:Int)(d e:Zt24):zh7 R kk (k+1) J a b c d e=
 zri a b c d e (zh7 R kk k J) (fun a0 a1=>J (.exit 0) (zcm a0 a1)):=by kernel_rfl
theorem z15b(a b:Zt24):z11n R kk K (.exit 0) (zcm a b)=
 zrj a b (fun a0=>K [.dat y16 a0 [[1]]] none):=by kernel_rfl
theorem z1bb{kk:Nat}(hF:kk=FUEL)(t11:Zt22)(t12 t13:Int)(bt2 bt3:Zt24):zh7 R kk k J t11 t12 t13 bt2 bt3=(z9e k t11 t12 t13 bt2 bt3).bind fun e=>J (.exit 0) (zcm e.1 e.2):=by
 induction k generalizing t11 t12 t13 bt2 bt3 with
 |zero=>rfl
 |succ k ih=>
  rw[z1fs]
  simp only[z9e,zri,ih,nn_]
def Tb129:Funs:=Tb128.add 23 [y16] (pu1 y16 Q164 (fun _ r K=>K [.dat y16 r [[1]]] none))
theorem o129:Okt Tryz.prog Tb129:=st1 zmx Tryz.f23 (fun R kk x0 K=>zh8 x0 (zh7 R kk kk (z11n R kk K))) o128 (ek _ _ _ _) Tryz.func23 (by kernel_rfl) rfl (fun _ _ _ _ _ _ h=>h _ _) (fun _ _ _ _=>by kernel_rfl) fun R kk e x0 K=>by
 simp only[Q164,zh8,zrj,z1bb (hF:=e),z15b,nn_,←e]
def Q58_E:Env:={e0 [y19,.str] with sh:=[48]}
def Tb130:Funs:=Tb129.add 7 [y19,.str] (pu2 y19 .str Q58 (fun _ r K=>K [tB r] none))
theorem o130:Okt Tryz.prog Tb130:=st2 Q58_E Tryz.f7 (fun R kk x0 x1 K=>zoa x0 x1 (fun a0=>K [tB a0] none)) o129 ((ek _ _ _ _).sh _) Tryz.func7 (by kernel_rfl) rfl (fun _ _ _ _ _ _ h=>h _ _) (fun _ _ _ _ _=>by kernel_rfl) fun R kk e x0 x1 K=>by
 simp only[Q58,zoa,nn_]
end
end Go.Proofs.YtkgpjibbdpikcaaGreatDoor

